/- K21 -/
import Derived.Test.YtlpaikjhphkioaaGreatK15
import Derived.Test.YtlpaikjhphkioaaGreatK13
import Derived.Test.YtlpaikjhphkioaaGreatK12
import Derived.Test.YtlpaikjhphkioaaGreatK19
import Derived.Test.YtlpaikjhphkioaaGreatK20
set_option linter.unusedVariables false
set_option linter.unusedSimpArgs false
noncomputable section
set_option maxRecDepth 10000
set_option maxHeartbeats 4000000
namespace Av
open Go
attribute [local irreducible] AWp Uv qW xf awS awC abB awQ acd QZ UL aa2 awR Kc awB okR yu ris
def QA (l:List Int) (k:Nat):List V:=[.sl 1 (l.map V.int),V.int k]
theorem Xe (l:List Int) (k:Nat):Qd (QA l k):=by simp only [QA,V.closed,Qd,and_self]
def Qm (l:List Int) (k:Nat) (n:Int):Int×Nat:=if k < l.length then (ap4 (l.getD k 0) n,k + 1) else (0,k)
theorem QH {l:List Int} {k:Nat} {n:Int} (hk:k≤l.length):(Qm l k n).2≤l.length:=by
 unfold Qm;split
 ·show k + 1≤l.length;omega
 ·exact hk
theorem alv {a n:Int} (h1:1≤n) (h2:n < 2 ^ 62):0≤ap4 a n∧ap4 a n < n:=by
 unfold ap4
 rw [if_neg (by omega)]
 have ha:=Int.tmod_lt_of_pos a (show 0 < n by omega)
 have hb:-n < a.tmod n:=by
  have:=Int.tmod_lt_of_pos (-a) (show 0 < n by omega)
  rw [Int.neg_tmod] at this;omega
 rw [QG (by omega) (by omega)]
 exact ⟨Int.tmod_nonneg _ (by omega),Int.tmod_lt_of_pos _ (by omega)⟩
theorem Qr {l:List Int} {k:Nat} {n:Int} (h1:1≤n) (h2:n < 2 ^ 62):0≤(Qm l k n).1∧(Qm l k n).1 < n:=by
 unfold Qm;split
 ·exact alv h1 h2
 ·show (0:Int)≤0∧(0:Int) < n;omega
def ju:=qd Proofs.Tryz.f6 []
def xc (Γ:Env) (f:Nat):Prop:=∀ (l:List Int),EvN Γ f [.sl 1 (l.map V.int)] (V.bool (decide ((l.length:Int)≤400)))
attribute [local go_sem] zb in
theorem agz {Γ:Env} {f:Nat} (h:Has Γ.P f 6 ju.1.1.ac ju.1.2) :xc Γ f:=by
 intro l
 refine Qb h zsi zcl zcl fun C hC hm=>?_
 subst hC
 simp only [ju,qd,DC.ac]
 refine zgo ?_;repeat' first|exact zt|apply zan|intro hc
 refine Qk _ rfl ?_;simp only [go_sem]
def yF:=qd Proofs.Tryz.f8 []
def wa (Γ:Env) (f:Nat):Prop:=∀ (l:List Int),EvR Γ f [.sl 1 (l.map V.int)] (QA l 0)
theorem ah3 {Γ:Env} {f:Nat} (h:Has Γ.P f 6 yF.1.1.ac yF.1.2) :wa Γ f:=by
 intro l
 refine ad4 h (by simp) (by simp only [QA,V.closed,Qd,and_self]) fun C hC hm=>?_
 subst hC
 simp only [yF,qd,DC.ac]
 refine zgo ?_;repeat' first|exact zt|apply zan|intro hc
 refine aqg _ rfl rfl (by simp only [QA,V.closed,Qd,and_self])
def Wg:=qd Proofs.Tryz.f10 [zhn 14,zhn 10]
def Jc (Γ:Env) (f:Nat):Prop:=∀ (l:List Int) (k:Nat) (n:Int) (hl:l.length≤400) (hk:k≤l.length),EvD Γ f [V.int n] (QA l k) (V.int (Qm l k n).1) (QA l (Qm l k n).2)
attribute [local go_sem] QA in
theorem aau {Γ:Env} {f:Nat} (h:Has Γ.P f 35 Wg.1.1.ac Wg.1.2) (z0:vS Γ 27):Jc Γ f:=by
 intro l k n hl hk
 refine Vj h zsi zcl zc3 zc3 fun C hC hm=>?_
 subst hC
 simp only [Wg,qd,DC.ac]
 by_cases h1:k < l.length
 ·have e1:decide ((k:Int)≥(((l.map V.int).length:Nat):Int)) = false:=by simp;omega
  have hget:l[k]? = some (l.getD k 0):=by simp [zJ,zd h1]
  have hw:=Qf (k:=k) (by omega)
  have hw2:IntKind.i64.wrap (((k + 1:Nat):Int) - 1) = (k:Int):=by rw [QG (by omega) (by omega)];omega
  have hn:Qm l k n = (ap4 (l.getD k 0) n,k + 1):=by rw [Qm,if_pos h1]
  rw [hn]
  (have zx:=za e1 (za hw (za hw2 hget)));refine zgo ?_;repeat' first|exact zt|apply zan|intro hc
  all_goals (refine ab6 _ rfl rfl zcd ?_;simp only [go_sem])
 ·have e1:decide ((k:Int)≥(((l.map V.int).length:Nat):Int)) = true:=by simp;omega
  have hn:Qm l k n = (0,k):=by rw [Qm,if_neg h1]
  rw [hn]
  (have zx:=e1);refine zgo ?_;repeat' first|exact zt|apply zan|intro hc
  all_goals (refine ab6 _ rfl rfl zcd ?_;simp only [go_sem])
def ofD (l:List Int) (k:Nat) (xs:List Int):Int×Nat:=(xs.getD (Qm l k xs.length).1.toNat 0,(Qm l k xs.length).2)
theorem ql {l:List Int} {k:Nat} {xs:List Int} (h:xs≠[]) (h2:xs.length < 2 ^ 62):(ofD l k xs).1∈xs:=by
 have h1:1≤xs.length:=by cases xs with|nil=>exact (h rfl).elim|cons _ _=>simp
 have:=Qr (l:=l) (k:=k) (n:=xs.length) (by omega) (by omega)
 have hk:(Qm l k xs.length).1.toNat < xs.length:=by omega
 unfold ofD
 simp only [zJ,zd hk,Option.getD_some]
 exact zZ hk
theorem qm {l:List Int} {k:Nat} {xs:List Int} (hk:k≤l.length):(ofD l k xs).2≤l.length:=QH hk
def VU:=qd Proofs.Tryz.f11 []
def Xw (Γ:Env) (f:Nat):Prop:=∀ (l:List Int) (k:Nat) (xs:List Int) (hl:l.length≤400) (hk:k≤l.length) (hx:1≤xs.length) (hx2:xs.length < 2 ^ 62),EvD Γ f [.sl 1 (xs.map V.int)] (QA l k) (V.int (ofD l k xs).1) (QA l (ofD l k xs).2)
attribute [local go_sem] zb QA in
theorem acJ {Γ:Env} {f:Nat} (h:Has Γ.P f 12 VU.1.1.ac VU.1.2) (z0:Jc Γ 10):Xw Γ f:=by
 intro l k xs hl hk hx hx2
 refine Vj h zsi zcl zc3 zc3 fun C hC hm=>?_
 subst hC
 simp only [VU,qd,DC.ac]
 have hr:=Qr (l:=l) (k:=k) (n:=xs.length) (by omega) (by omega)
 have hget:xs[(Qm l k xs.length).1.toNat]? = some (ofD l k xs).1:=by
  have hk:(Qm l k xs.length).1.toNat < xs.length:=by omega
  simp [ofD,zJ,zd hk]
 have hn:=z0 l k xs.length hl hk
 have e2:QA l (ofD l k xs).2 = QA l (Qm l k xs.length).2:=rfl
 rw [e2]
 simp only [QA] at hn
 (have zx:=hget);refine zgo ?_;repeat' first|exact zt|apply zan|intro hc
 refine ab6 _ rfl rfl zcd ?_;simp only [go_sem]
def W4:=qd Proofs.Tryz.f28 []
def UR (Γ:Env) (f:Nat):Prop:=∀ (l:List Int) (k:Nat) (n:Int) (hl:l.length≤400) (hk:k≤l.length) (h1:1≤n) (h2:n < 2 ^ 62),EvD Γ f [V.int n] (QA l k) (V.bool ((Qm l k n).1 == n - 1)) (QA l (Qm l k n).2)
attribute [local go_sem] QA in
theorem abr {Γ:Env} {f:Nat} (h:Has Γ.P f 11 W4.1.1.ac W4.1.2) (z0:Jc Γ 10):UR Γ f:=by
 intro l k n hl hk h1 h2
 refine Vj h zsi zcl zc3 zc3 fun C hC hm=>?_
 subst hC
 simp only [W4,qd,DC.ac]
 have hn:=z0 l k n hl hk
 have hw:IntKind.i64.wrap (n - 1) = n - 1:=QG (by omega) (by omega)
 simp only [QA] at hn
 (have zx:=hw);refine zgo ?_;repeat' first|exact zt|apply zan|intro hc
 refine ab6 _ rfl rfl zcd ?_;simp only [go_sem]
def jA (l:List Int) (k:Nat) (xs:List (List UInt8)):List UInt8×Nat:=(xs.getD (Qm l k xs.length).1.toNat [],(Qm l k xs.length).2)
theorem ac7 {l:List Int} {k:Nat} {xs:List (List UInt8)} (h1:1≤xs.length) (h2:xs.length < 2 ^ 62):(jA l k xs).1∈xs:=by
 have:=Qr (l:=l) (k:=k) (n:=xs.length) (by omega) (by omega)
 have hk:(Qm l k xs.length).1.toNat < xs.length:=by omega
 unfold jA
 simp only [zJ,zd hk,Option.getD_some]
 exact zZ hk
theorem qS {l:List Int} {k:Nat} {xs:List (List UInt8)} (hk:k≤l.length):(jA l k xs).2≤l.length:=QH hk
def Wf:=qd Proofs.Tryz.f13 []
def XP (Γ:Env) (f:Nat):Prop:=∀ (l:List Int) (k:Nat) (xs:List (List UInt8)) (hl:l.length≤400) (hk:k≤l.length) (hx:1≤xs.length) (hx2:xs.length < 2 ^ 62),EvD Γ f [.sl 1 (xs.map V.str)] (QA l k) (V.str (jA l k xs).1) (QA l (jA l k xs).2)
attribute [local go_sem] zb QA in
theorem aat {Γ:Env} {f:Nat} (h:Has Γ.P f 12 Wf.1.1.ac Wf.1.2) (z0:Jc Γ 10):XP Γ f:=by
 intro l k xs hl hk hx hx2
 refine Vj h zsi zcl zc3 zc3 fun C hC hm=>?_
 subst hC
 simp only [Wf,qd,DC.ac]
 have hr:=Qr (l:=l) (k:=k) (n:=xs.length) (by omega) (by omega)
 have hget:xs[(Qm l k xs.length).1.toNat]? = some (jA l k xs).1:=by
  have hk:(Qm l k xs.length).1.toNat < xs.length:=by omega
  simp [jA,zJ,zd hk]
 have hn:=z0 l k xs.length hl hk
 have e2:QA l (jA l k xs).2 = QA l (Qm l k xs.length).2:=rfl
 rw [e2]
 simp only [QA] at hn
 (have zx:=hget);refine zgo ?_;repeat' first|exact zt|apply zan|intro hc
 refine ab6 _ rfl rfl zcd ?_;simp only [go_sem]
theorem aqz (s:List UInt8):(asW s).2 = (vX 43 s).all anm:=by
 unfold asW;split
 ·rename_i h;rw [h]
 ·rename_i h;simpa using h
structure akZ (s:List UInt8):Prop where
 colon:(58:UInt8) ∉ s
 known:(vX 43 s).all anm = true
 head:∃ c r,s = c :: r∧c≠45∧c≠33∧c≠43∧c≠64
theorem akZ.sign {s:List UInt8} (h:akZ s):aqx s = (0,s):=by
 obtain ⟨c,r,rfl,h1,h2,h3,_⟩:=h.head
 rw [aqx,if_neg (by simp [h1,h2,h3])]
theorem akZ.okW {s:List UInt8} (h:akZ s):wordOk s = true:=by rw [Av.wordOk,h.sign,aqz,h.known,ZV]
structure akY (s:List UInt8) (n:Nat):Prop where
 few:s≠[]→(vX 58 s).length≤n
 ok:s≠[]→∀ w∈vX 58 s,wordOk w = true
theorem akY.app {s t:List UInt8} {n m:Nat} (hs:akY s n) (ht:akY t m) (h1:s≠[]) (h2:t≠[]):akY (s++[58]++t) (n + m):=by
 refine ⟨fun _=>?_,fun _ x hx=>?_⟩
 ·have:=hs.few h1;have:=ht.few h2;rw [afg];simp;omega
 ·rw [afg] at hx
  rcases zT.1 hx with hx|hx
  ·exact hs.ok h1 x hx
  ·exact ht.ok h2 x hx
structure NR (a:List Int):Prop where
 nd:a.Nodup
 rg:∀ x∈a,1≤x∧x≤16
theorem NR.add {a:List Int} (h:NR a) (l:List Int) (k:Nat):NR (if a.contains (1 + (Qm l k 16).1) = true then a else a++[1 + (Qm l k 16).1]):=by
 have hr:=Qr (l:=l) (k:=k) (n:=16) (by omega) (by omega)
 split
 ·exact h
 ·rename_i hc
  have hx:1 + (Qm l k 16).1 ∉ a:=by simpa using hc
  refine ⟨ba.2 ⟨h.nd,by simp,fun x hx2 y hy e=>?_⟩,fun x hx2=>?_⟩
  ·simp at hy;subst hy;subst e;exact hx hx2
  ·rcases zT.1 hx2 with h1|h1
   ·exact h.rg x h1
   ·simp at h1;omega
end Av
end
