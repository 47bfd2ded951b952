/- W21 -/
import Derived.Test.YtlpaikjhphkioaaGreatW15
import Derived.Test.YtlpaikjhphkioaaGreatW13
import Derived.Test.YtlpaikjhphkioaaGreatW12
import Derived.Test.YtlpaikjhphkioaaGreatW19
import Derived.Test.YtlpaikjhphkioaaGreatW20
set_option linter.unusedVariables false
set_option linter.unusedSimpArgs false
noncomputable section
set_option maxRecDepth 10000
set_option maxHeartbeats 4000000
namespace Av
open Go
attribute [local irreducible] AWp Vy K7 jE awS awC aaG awQ abg QW Uc vZ awR Uj awB okR jt ris
def QH (l:List Int) (k:Nat):List V:=[.sl 1 (l.map V.int),V.int k]
theorem Xd (l:List Int) (k:Nat):Qc (QH l k):=by simp only [QH,V.closed,Qc,and_self]
def Qk (l:List Int) (k:Nat) (n:Int):Int×Nat:=if k < l.length then (anR (l.getD k 0) n,k + 1) else (0,k)
theorem QG {l:List Int} {k:Nat} {n:Int} (hk:k≤l.length):(Qk l k n).2≤l.length:=by
 unfold Qk;split
 ·show k + 1≤l.length;omega
 ·exact hk
theorem ajr {a n:Int} (h1:1≤n) (h2:n < 2 ^ 62):0≤anR a n∧anR a n < n:=by
 unfold anR
 rw [if_neg (by omega)]
 have ha:=Int.tmod_lt_of_pos a (show 0 < n by omega)
 have hb:-n < a.tmod n:=by
  have:=Int.tmod_lt_of_pos (-a) (show 0 < n by omega)
  rw [Int.neg_tmod] at this;omega
 rw [QP (by omega) (by omega)]
 exact ⟨Int.tmod_nonneg _ (by omega),Int.tmod_lt_of_pos _ (by omega)⟩
theorem Qo {l:List Int} {k:Nat} {n:Int} (h1:1≤n) (h2:n < 2 ^ 62):0≤(Qk l k n).1∧(Qk l k n).1 < n:=by
 unfold Qk;split
 ·exact ajr h1 h2
 ·show (0:Int)≤0∧(0:Int) < n;omega
def K3:=qd Proofs.Tryz.f6 []
def jp (Γ:Env) (f:Nat):Prop:=∀ (l:List Int),EvN Γ f [.sl 1 (l.map V.int)] (V.bool (decide ((l.length:Int)≤400)))
attribute [local go_sem] zb in
theorem aeO {Γ:Env} {f:Nat} (h:Has Γ.P f 6 K3.1.1.ac K3.1.2) :jp Γ f:=by
 intro l
 refine Qb h zsi zcl zcl fun C hC hm=>?_
 subst hC
 simp only [K3,qd,DC.ac]
 refine zgo ?_;repeat' first|exact zt|apply zan|intro hc
 refine Ql _ rfl ?_;simp only [go_sem]
def q9:=qd Proofs.Tryz.f8 []
def ym (Γ:Env) (f:Nat):Prop:=∀ (l:List Int),EvR Γ f [.sl 1 (l.map V.int)] (QH l 0)
theorem agd {Γ:Env} {f:Nat} (h:Has Γ.P f 6 q9.1.1.ac q9.1.2) :ym Γ f:=by
 intro l
 refine acs h (by simp) (by simp only [QH,V.closed,Qc,and_self]) fun C hC hm=>?_
 subst hC
 simp only [q9,qd,DC.ac]
 refine zgo ?_;repeat' first|exact zt|apply zan|intro hc
 refine an3 _ rfl rfl (by simp only [QH,V.closed,Qc,and_self])
def Xs:=qd Proofs.Tryz.f10 [zhn 14,zhn 10]
def Q3 (Γ:Env) (f:Nat):Prop:=∀ (l:List Int) (k:Nat) (n:Int) (hl:l.length≤400) (hk:k≤l.length),EvD Γ f [V.int n] (QH l k) (V.int (Qk l k n).1) (QH l (Qk l k n).2)
attribute [local go_sem] QH in
theorem wd {Γ:Env} {f:Nat} (h:Has Γ.P f 35 Xs.1.1.ac Xs.1.2) (z0:xz Γ 27):Q3 Γ f:=by
 intro l k n hl hk
 refine Wk h zsi zcl zc3 zc3 fun C hC hm=>?_
 subst hC
 simp only [Xs,qd,DC.ac]
 by_cases h1:k < l.length
 ·have e1:decide ((k:Int)≥(((l.map V.int).length:Nat):Int)) = false:=by simp;omega
  have hget:l[k]? = some (l.getD k 0):=by simp [zK,zd h1]
  have hw:=Qg (k:=k) (by omega)
  have hw2:IntKind.i64.wrap (((k + 1:Nat):Int) - 1) = (k:Int):=by rw [QP (by omega) (by omega)];omega
  have hn:Qk l k n = (anR (l.getD k 0) n,k + 1):=by rw [Qk,if_pos h1]
  rw [hn]
  (have zx:=za e1 (za hw (za hw2 hget)));refine zgo ?_;repeat' first|exact zt|apply zan|intro hc
  all_goals (refine aaB _ rfl rfl zcd ?_;simp only [go_sem])
 ·have e1:decide ((k:Int)≥(((l.map V.int).length:Nat):Int)) = true:=by simp;omega
  have hn:Qk l k n = (0,k):=by rw [Qk,if_neg h1]
  rw [hn]
  (have zx:=e1);refine zgo ?_;repeat' first|exact zt|apply zan|intro hc
  all_goals (refine aaB _ rfl rfl zcd ?_;simp only [go_sem])
def ofD (l:List Int) (k:Nat) (xs:List Int):Int×Nat:=(xs.getD (Qk l k xs.length).1.toNat 0,(Qk l k xs.length).2)
theorem Kc {l:List Int} {k:Nat} {xs:List Int} (h:xs≠[]) (h2:xs.length < 2 ^ 62):(ofD l k xs).1∈xs:=by
 have h1:1≤xs.length:=by cases xs with|nil=>exact (h rfl).elim|cons _ _=>simp
 have:=Qo (l:=l) (k:=k) (n:=xs.length) (by omega) (by omega)
 have hk:(Qk l k xs.length).1.toNat < xs.length:=by omega
 unfold ofD
 simp only [zK,zd hk,Option.getD_some]
 exact zZ hk
theorem ju {l:List Int} {k:Nat} {xs:List Int} (hk:k≤l.length):(ofD l k xs).2≤l.length:=QG hk
def WW:=qd Proofs.Tryz.f11 []
def Wb (Γ:Env) (f:Nat):Prop:=∀ (l:List Int) (k:Nat) (xs:List Int) (hl:l.length≤400) (hk:k≤l.length) (hx:1≤xs.length) (hx2:xs.length < 2 ^ 62),EvD Γ f [.sl 1 (xs.map V.int)] (QH l k) (V.int (ofD l k xs).1) (QH l (ofD l k xs).2)
attribute [local go_sem] zb QH in
theorem aa5 {Γ:Env} {f:Nat} (h:Has Γ.P f 12 WW.1.1.ac WW.1.2) (z0:Q3 Γ 10):Wb Γ f:=by
 intro l k xs hl hk hx hx2
 refine Wk h zsi zcl zc3 zc3 fun C hC hm=>?_
 subst hC
 simp only [WW,qd,DC.ac]
 have hr:=Qo (l:=l) (k:=k) (n:=xs.length) (by omega) (by omega)
 have hget:xs[(Qk l k xs.length).1.toNat]? = some (ofD l k xs).1:=by
  have hk:(Qk l k xs.length).1.toNat < xs.length:=by omega
  simp [ofD,zK,zd hk]
 have hn:=z0 l k xs.length hl hk
 have e2:QH l (ofD l k xs).2 = QH l (Qk l k xs.length).2:=rfl
 rw [e2]
 simp only [QH] at hn
 (have zx:=hget);refine zgo ?_;repeat' first|exact zt|apply zan|intro hc
 refine aaB _ rfl rfl zcd ?_;simp only [go_sem]
def X4:=qd Proofs.Tryz.f28 []
def VR (Γ:Env) (f:Nat):Prop:=∀ (l:List Int) (k:Nat) (n:Int) (hl:l.length≤400) (hk:k≤l.length) (h1:1≤n) (h2:n < 2 ^ 62),EvD Γ f [V.int n] (QH l k) (V.bool ((Qk l k n).1 == n - 1)) (QH l (Qk l k n).2)
attribute [local go_sem] QH in
theorem vQ {Γ:Env} {f:Nat} (h:Has Γ.P f 11 X4.1.1.ac X4.1.2) (z0:Q3 Γ 10):VR Γ f:=by
 intro l k n hl hk h1 h2
 refine Wk h zsi zcl zc3 zc3 fun C hC hm=>?_
 subst hC
 simp only [X4,qd,DC.ac]
 have hn:=z0 l k n hl hk
 have hw:IntKind.i64.wrap (n - 1) = n - 1:=QP (by omega) (by omega)
 simp only [QH] at hn
 (have zx:=hw);refine zgo ?_;repeat' first|exact zt|apply zan|intro hc
 refine aaB _ rfl rfl zcd ?_;simp only [go_sem]
def jC (l:List Int) (k:Nat) (xs:List (List UInt8)):List UInt8×Nat:=(xs.getD (Qk l k xs.length).1.toNat [],(Qk l k xs.length).2)
theorem abx {l:List Int} {k:Nat} {xs:List (List UInt8)} (h1:1≤xs.length) (h2:xs.length < 2 ^ 62):(jC l k xs).1∈xs:=by
 have:=Qo (l:=l) (k:=k) (n:=xs.length) (by omega) (by omega)
 have hk:(Qk l k xs.length).1.toNat < xs.length:=by omega
 unfold jC
 simp only [zK,zd hk,Option.getD_some]
 exact zZ hk
theorem xC {l:List Int} {k:Nat} {xs:List (List UInt8)} (hk:k≤l.length):(jC l k xs).2≤l.length:=QG hk
def Xr:=qd Proofs.Tryz.f13 []
def Vh (Γ:Env) (f:Nat):Prop:=∀ (l:List Int) (k:Nat) (xs:List (List UInt8)) (hl:l.length≤400) (hk:k≤l.length) (hx:1≤xs.length) (hx2:xs.length < 2 ^ 62),EvD Γ f [.sl 1 (xs.map V.str)] (QH l k) (V.str (jC l k xs).1) (QH l (jC l k xs).2)
attribute [local go_sem] zb QH in
theorem wc {Γ:Env} {f:Nat} (h:Has Γ.P f 12 Xr.1.1.ac Xr.1.2) (z0:Q3 Γ 10):Vh Γ f:=by
 intro l k xs hl hk hx hx2
 refine Wk h zsi zcl zc3 zc3 fun C hC hm=>?_
 subst hC
 simp only [Xr,qd,DC.ac]
 have hr:=Qo (l:=l) (k:=k) (n:=xs.length) (by omega) (by omega)
 have hget:xs[(Qk l k xs.length).1.toNat]? = some (jC l k xs).1:=by
  have hk:(Qk l k xs.length).1.toNat < xs.length:=by omega
  simp [jC,zK,zd hk]
 have hn:=z0 l k xs.length hl hk
 have e2:QH l (jC l k xs).2 = QH l (Qk l k xs.length).2:=rfl
 rw [e2]
 simp only [QH] at hn
 (have zx:=hget);refine zgo ?_;repeat' first|exact zt|apply zan|intro hc
 refine aaB _ rfl rfl zcd ?_;simp only [go_sem]
theorem aom (s:List UInt8):(aqI s).2 = (xF 43 s).all ak8:=by
 unfold aqI;split
 ·rename_i h;rw [h]
 ·rename_i h;simpa using h
structure aiX (s:List UInt8):Prop where
 colon:(58:UInt8) ∉ s
 known:(xF 43 s).all ak8 = true
 head:∃ c r,s = c :: r∧c≠45∧c≠33∧c≠43∧c≠64
theorem aiX.sign {s:List UInt8} (h:aiX s):aok s = (0,s):=by
 obtain ⟨c,r,rfl,h1,h2,h3,_⟩:=h.head
 rw [aok,if_neg (by simp [h1,h2,h3])]
theorem aiX.okW {s:List UInt8} (h:aiX s):wordOk s = true:=by rw [Av.wordOk,h.sign,aom,h.known,ZO]
structure aiW (s:List UInt8) (n:Nat):Prop where
 few:s≠[]→(xF 58 s).length≤n
 ok:s≠[]→∀ w∈xF 58 s,wordOk w = true
theorem aiW.app {s t:List UInt8} {n m:Nat} (hs:aiW s n) (ht:aiW t m) (h1:s≠[]) (h2:t≠[]):aiW (s++[58]++t) (n + m):=by
 refine ⟨fun _=>?_,fun _ x hx=>?_⟩
 ·have:=hs.few h1;have:=ht.few h2;rw [adE];simp;omega
 ·rw [adE] at hx
  rcases zY.1 hx with hx|hx
  ·exact hs.ok h1 x hx
  ·exact ht.ok h2 x hx
structure NR (a:List Int):Prop where
 nd:a.Nodup
 rg:∀ x∈a,1≤x∧x≤16
theorem NR.add {a:List Int} (h:NR a) (l:List Int) (k:Nat):NR (if a.contains (1 + (Qk l k 16).1) = true then a else a++[1 + (Qk l k 16).1]):=by
 have hr:=Qo (l:=l) (k:=k) (n:=16) (by omega) (by omega)
 split
 ·exact h
 ·rename_i hc
  have hx:1 + (Qk l k 16).1 ∉ a:=by simpa using hc
  refine ⟨Z7.2 ⟨h.nd,by simp,fun x hx2 y hy e=>?_⟩,fun x hx2=>?_⟩
  ·simp at hy;subst hy;subst e;exact hx hx2
  ·rcases zY.1 hx2 with h1|h1
   ·exact h.rg x h1
   ·simp at h1;omega
end Av
end
