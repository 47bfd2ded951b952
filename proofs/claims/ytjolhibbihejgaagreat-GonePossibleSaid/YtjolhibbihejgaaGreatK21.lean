/- K21 -/
import Derived.Test.YtjolhibbihejgaaGreatK15
import Derived.Test.YtjolhibbihejgaaGreatK13
import Derived.Test.YtjolhibbihejgaaGreatK12
import Derived.Test.YtjolhibbihejgaaGreatK19
import Derived.Test.YtjolhibbihejgaaGreatK20
set_option linter.unusedVariables false
set_option linter.unusedSimpArgs false
noncomputable section
set_option maxRecDepth 10000
set_option maxHeartbeats 4000000
namespace Av
open Go
attribute [local irreducible] AWp UY qH yr awS awC aaT awQ abS Q1 Ub aaE awR Ux awB okR ym ris
def Yv (l:List Int) (k:Nat):List V:=[.sl 1 (l.map V.int),V.int k]
theorem Qm (l:List Int) (k:Nat):Qd (Yv l k):=by simp only [Yv,V.closed,Qd,and_self]
def Jf (l:List Int) (k:Nat) (n:Int):Int×Nat:=if k < l.length then (aqF (l.getD k 0) n,k + 1) else (0,k)
theorem JX {l:List Int} {k:Nat} {n:Int} (hk:k≤l.length):(Jf l k n).2≤l.length:=by
 unfold Jf;split
 ·show k + 1≤l.length;omega
 ·exact hk
theorem al9 {a n:Int} (h1:1≤n) (h2:n < 2 ^ 62):0≤aqF a n∧aqF a n < n:=by
 unfold aqF
 rw [if_neg (by omega)]
 have ha:=Int.tmod_lt_of_pos a (show 0 < n by omega)
 have hb:-n < a.tmod n:=by
  have:=Int.tmod_lt_of_pos (-a) (show 0 < n by omega)
  rw [Int.neg_tmod] at this;omega
 rw [Q9 (by omega) (by omega)]
 exact ⟨Int.tmod_nonneg _ (by omega),Int.tmod_lt_of_pos _ (by omega)⟩
theorem QU {l:List Int} {k:Nat} {n:Int} (h1:1≤n) (h2:n < 2 ^ 62):0≤(Jf l k n).1∧(Jf l k n).1 < n:=by
 unfold Jf;split
 ·exact al9 h1 h2
 ·show (0:Int)≤0∧(0:Int) < n;omega
def jH:=qd Proofs.Tryz.f4 []
def xK (Γ:Env) (f:Nat):Prop:=∀ (l:List Int),EvN Γ f [.sl 1 (l.map V.int)] (V.bool (decide ((l.length:Int)≤400)))
attribute [local go_sem] zb in
theorem ahe {Γ:Env} {f:Nat} (h:Has Γ.P f 6 jH.1.1.ac jH.1.2) :xK Γ f:=by
 intro l
 refine Qa h zsi zcl zcl fun C hC hm=>?_
 subst hC
 simp only [jH,qd,DC.ac]
 refine zgo ?_;repeat' first|exact zt|apply zan|intro hc
 refine Qi _ rfl ?_;simp only [go_sem]
def xp:=qd Proofs.Tryz.f6 []
def wW (Γ:Env) (f:Nat):Prop:=∀ (l:List Int),EvR Γ f [.sl 1 (l.map V.int)] (Yv l 0)
theorem aiC {Γ:Env} {f:Nat} (h:Has Γ.P f 6 xp.1.1.ac xp.1.2) :wW Γ f:=by
 intro l
 refine ae5 h (by simp) (by simp only [Yv,V.closed,Qd,and_self]) fun C hC hm=>?_
 subst hC
 simp only [xp,qd,DC.ac]
 refine zgo ?_;repeat' first|exact zt|apply zan|intro hc
 refine aqN _ rfl rfl (by simp only [Yv,V.closed,Qd,and_self])
def Wz:=qd Proofs.Tryz.f13 [zhn 14,zhn 10]
def JR (Γ:Env) (f:Nat):Prop:=∀ (l:List Int) (k:Nat) (n:Int) (hl:l.length≤400) (hk:k≤l.length),EvD Γ f [V.int n] (Yv l k) (V.int (Jf l k n).1) (Yv l (Jf l k n).2)
attribute [local go_sem] Yv in
theorem abl {Γ:Env} {f:Nat} (h:Has Γ.P f 35 Wz.1.1.ac Wz.1.2) (z0:aaQ Γ 29):JR Γ f:=by
 intro l k n hl hk
 refine Wf h zsi zcl zc3 zc3 fun C hC hm=>?_
 subst hC
 simp only [Wz,qd,DC.ac]
 by_cases h1:k < l.length
 ·have e1:decide ((k:Int)≥(((l.map V.int).length:Nat):Int)) = false:=by simp;omega
  have hget:l[k]? = some (l.getD k 0):=by simp [zK,zd h1]
  have hw:=Qg (k:=k) (by omega)
  have hw2:IntKind.i64.wrap (((k + 1:Nat):Int) - 1) = (k:Int):=by rw [Q9 (by omega) (by omega)];omega
  have hn:Jf l k n = (aqF (l.getD k 0) n,k + 1):=by rw [Jf,if_pos h1]
  rw [hn]
  (have zx:=za e1 (za hw (za hw2 hget)));refine zgo ?_;repeat' first|exact zt|apply zan|intro hc
  all_goals (refine v8 _ rfl rfl zcd ?_;simp only [go_sem])
 ·have e1:decide ((k:Int)≥(((l.map V.int).length:Nat):Int)) = true:=by simp;omega
  have hn:Jf l k n = (0,k):=by rw [Jf,if_neg h1]
  rw [hn]
  (have zx:=e1);refine zgo ?_;repeat' first|exact zt|apply zan|intro hc
  all_goals (refine v8 _ rfl rfl zcd ?_;simp only [go_sem])
def ofD (l:List Int) (k:Nat) (xs:List Int):Int×Nat:=(xs.getD (Jf l k xs.length).1.toNat 0,(Jf l k xs.length).2)
theorem acn {l:List Int} {k:Nat} {xs:List Int} (h:xs≠[]) (h2:xs.length < 2 ^ 62):(ofD l k xs).1∈xs:=by
 have h1:1≤xs.length:=by cases xs with|nil=>exact (h rfl).elim|cons _ _=>simp
 have:=QU (l:=l) (k:=k) (n:=xs.length) (by omega) (by omega)
 have hk:(Jf l k xs.length).1.toNat < xs.length:=by omega
 unfold ofD
 simp only [zK,zd hk,Option.getD_some]
 exact zM hk
theorem akW {l:List Int} {k:Nat} {xs:List Int} (hk:k≤l.length):(ofD l k xs).2≤l.length:=JX hk
def Um:=qd Proofs.Tryz.f14 []
def VD (Γ:Env) (f:Nat):Prop:=∀ (l:List Int) (k:Nat) (xs:List Int) (hl:l.length≤400) (hk:k≤l.length) (hx:1≤xs.length) (hx2:xs.length < 2 ^ 62),EvD Γ f [.sl 1 (xs.map V.int)] (Yv l k) (V.int (ofD l k xs).1) (Yv l (ofD l k xs).2)
attribute [local go_sem] zb Yv in
theorem adF {Γ:Env} {f:Nat} (h:Has Γ.P f 12 Um.1.1.ac Um.1.2) (z0:JR Γ 13):VD Γ f:=by
 intro l k xs hl hk hx hx2
 refine Wf h zsi zcl zc3 zc3 fun C hC hm=>?_
 subst hC
 simp only [Um,qd,DC.ac]
 have hr:=QU (l:=l) (k:=k) (n:=xs.length) (by omega) (by omega)
 have hget:xs[(Jf l k xs.length).1.toNat]? = some (ofD l k xs).1:=by
  have hk:(Jf l k xs.length).1.toNat < xs.length:=by omega
  simp [ofD,zK,zd hk]
 have hn:=z0 l k xs.length hl hk
 have e2:Yv l (ofD l k xs).2 = Yv l (Jf l k xs.length).2:=rfl
 rw [e2]
 simp only [Yv] at hn
 (have zx:=hget);refine zgo ?_;repeat' first|exact zt|apply zan|intro hc
 refine v8 _ rfl rfl zcd ?_;simp only [go_sem]
def Vu:=qd Proofs.Tryz.f15 []
def Ke (Γ:Env) (f:Nat):Prop:=∀ (l:List Int) (k:Nat) (n:Int) (hl:l.length≤400) (hk:k≤l.length) (h1:1≤n) (h2:n < 2 ^ 62),EvD Γ f [V.int n] (Yv l k) (V.bool ((Jf l k n).1 == n - 1)) (Yv l (Jf l k n).2)
attribute [local go_sem] Yv in
theorem acx {Γ:Env} {f:Nat} (h:Has Γ.P f 11 Vu.1.1.ac Vu.1.2) (z0:JR Γ 13):Ke Γ f:=by
 intro l k n hl hk h1 h2
 refine Wf h zsi zcl zc3 zc3 fun C hC hm=>?_
 subst hC
 simp only [Vu,qd,DC.ac]
 have hn:=z0 l k n hl hk
 have hw:IntKind.i64.wrap (n - 1) = n - 1:=Q9 (by omega) (by omega)
 simp only [Yv] at hn
 (have zx:=hw);refine zgo ?_;repeat' first|exact zt|apply zan|intro hc
 refine v8 _ rfl rfl zcd ?_;simp only [go_sem]
def qB (l:List Int) (k:Nat) (xs:List (List UInt8)):List UInt8×Nat:=(xs.getD (Jf l k xs.length).1.toNat [],(Jf l k xs.length).2)
theorem amW {l:List Int} {k:Nat} {xs:List (List UInt8)} (h1:1≤xs.length) (h2:xs.length < 2 ^ 62):(qB l k xs).1∈xs:=by
 have:=QU (l:=l) (k:=k) (n:=xs.length) (by omega) (by omega)
 have hk:(Jf l k xs.length).1.toNat < xs.length:=by omega
 unfold qB
 simp only [zK,zd hk,Option.getD_some]
 exact zM hk
theorem agz {l:List Int} {k:Nat} {xs:List (List UInt8)} (hk:k≤l.length):(qB l k xs).2≤l.length:=JX hk
def Wy:=qd Proofs.Tryz.f19 []
def UC (Γ:Env) (f:Nat):Prop:=∀ (l:List Int) (k:Nat) (xs:List (List UInt8)) (hl:l.length≤400) (hk:k≤l.length) (hx:1≤xs.length) (hx2:xs.length < 2 ^ 62),EvD Γ f [.sl 1 (xs.map V.str)] (Yv l k) (V.str (qB l k xs).1) (Yv l (qB l k xs).2)
attribute [local go_sem] zb Yv in
theorem abk {Γ:Env} {f:Nat} (h:Has Γ.P f 12 Wy.1.1.ac Wy.1.2) (z0:JR Γ 13):UC Γ f:=by
 intro l k xs hl hk hx hx2
 refine Wf h zsi zcl zc3 zc3 fun C hC hm=>?_
 subst hC
 simp only [Wy,qd,DC.ac]
 have hr:=QU (l:=l) (k:=k) (n:=xs.length) (by omega) (by omega)
 have hget:xs[(Jf l k xs.length).1.toNat]? = some (qB l k xs).1:=by
  have hk:(Jf l k xs.length).1.toNat < xs.length:=by omega
  simp [qB,zK,zd hk]
 have hn:=z0 l k xs.length hl hk
 have e2:Yv l (qB l k xs).2 = Yv l (Jf l k xs.length).2:=rfl
 rw [e2]
 simp only [Yv] at hn
 (have zx:=hget);refine zgo ?_;repeat' first|exact zt|apply zan|intro hc
 refine v8 _ rfl rfl zcd ?_;simp only [go_sem]
theorem aq8 (s:List UInt8):(atR s).2 = (aa1 43 s).all an1:=by
 unfold atR;split
 ·rename_i h;rw [h]
 ·rename_i h;simpa using h
structure alH (s:List UInt8):Prop where
 colon:(58:UInt8) ∉ s
 known:(aa1 43 s).all an1 = true
 head:∃ c r,s = c :: r∧c≠45∧c≠33∧c≠43∧c≠64
theorem alH.sign {s:List UInt8} (h:alH s):aq6 s = (0,s):=by
 obtain ⟨c,r,rfl,h1,h2,h3,_⟩:=h.head
 rw [aq6,if_neg (by simp [h1,h2,h3])]
theorem alH.okW {s:List UInt8} (h:alH s):wordOk s = true:=by rw [Av.wordOk,h.sign,aq8,h.known,kY]
structure alG (s:List UInt8) (n:Nat):Prop where
 few:s≠[]→(aa1 58 s).length≤n
 ok:s≠[]→∀ w∈aa1 58 s,wordOk w = true
theorem alG.app {s t:List UInt8} {n m:Nat} (hs:alG s n) (ht:alG t m) (h1:s≠[]) (h2:t≠[]):alG (s++[58]++t) (n + m):=by
 refine ⟨fun _=>?_,fun _ x hx=>?_⟩
 ·have:=hs.few h1;have:=ht.few h2;rw [af0];simp;omega
 ·rw [af0] at hx
  rcases zU.1 hx with hx|hx
  ·exact hs.ok h1 x hx
  ·exact ht.ok h2 x hx
theorem ah7 {l:List Int} {j:Nat} {x:Int} (hn:l.Nodup) (hg:l[j]? = some x):x ∉ l.take j:=by
 intro h
 obtain ⟨hj,he⟩:=zj.1 hg
 have h2:l.take j++x :: l.drop (j + 1) = l:=by rw [← he,← kq hj,Zy]
 rw [← h2] at hn
 exact (kM.1 hn).2.2 x h x (by simp) rfl
def asq (c:UInt8) (o:List UInt8):Bool:=(decide ((c.toNat:Int)≥97) && decide ((c.toNat:Int)≤122)) || ((decide ((c.toNat:Int)≥65) && decide ((c.toNat:Int)≤90)) || ((decide ((c.toNat:Int)≥48) && decide ((c.toNat:Int)≤57)) || decide (Lib.indexByte o c≥0)))
def ahK (s:List UInt8):Bool:=s.all (fun c=>asq c [45,95,46]) && (decide ((s.length:Int)≥1) && decide ((s.length:Int)≤32))
def Wv:=qd Proofs.Tryz.f96 []
def Uz (Γ:Env) (f:Nat):Prop:=∀ (c:UInt8) (o:List UInt8),EvN Γ f [.sc (.int .u8 c.toNat),V.str o] (V.bool (asq c o))
theorem abh {Γ:Env} {f:Nat} (h:Has Γ.P f 33 Wv.1.1.ac Wv.1.2) (z0:K3 Γ 134):Uz Γ f:=by
 intro c o
 refine Qa h zsi zcl zcl fun C hC hm=>?_
 subst hC
 simp only [Wv,qd,DC.ac]
 refine zgo ?_;repeat' first|exact zt|apply zan|intro hc
 all_goals (refine Qi _ rfl ?_;simp only [go_sem];simp [asq, *];done)
def Uj:=qd Proofs.Tryz.f57 []
def KS (Γ:Env) (f:Nat):Prop:=∀ (s:List UInt8) (hs:s.length < 2 ^ 30),EvN Γ f [V.str s] (V.bool (ahK s))
attribute [local go_sem] Yh in
theorem adD {Γ:Env} {f:Nat} (h:Has Γ.P f 24 Uj.1.1.ac Uj.1.2) (z0:Uz Γ 96):KS Γ f:=by
 intro s hs
 refine Qa h zsi zcl zcl fun C hC hm=>?_
 subst hC
 simp only [Uj,qd,DC.ac]
 refine zgo ?_;repeat' first|exact zt|apply zan|intro hc
 refine Qs (ι:=Nat) (fun k=>k≤s.length∧(s.take k).all (fun c=>asq c [45,95,46]) = true) (fun k=>Yh [(0,V.str s),(6,.hd 0 0 s.length),(7,V.int s.length),(8,V.int k)] [(0,.buf false 1 (s.map fun c=>V.sc (.int .u8 c.toNat)))] 1) (fun k=>s.length - k) 0 ⟨by omega,by simp⟩ (Qf [(0,2000)]) (zwg [(0,2000)]) fun k hk K' hL=>?_
 obtain ⟨hk,hinv⟩:=hk
 rcases hd:s.drop k with _|⟨c,r⟩
 ·have hkl:=Qr hd
  rw [zi hkl] at hinv
  have e1:decide ((k:Int) < ((s.length:Nat):Int)) = false:=by simp;omega
  have hw:ahK s = (decide ((s.length:Int)≥1) && decide ((s.length:Int)≤32)):=by rw [ahK,hinv,zP]
  rw [hw]
  (have zx:=e1);refine zgo ?_;repeat' first|exact zt|apply zan|intro hc
  all_goals first|exact zr|(refine Qi _ rfl ?_;simp only [go_sem];simp [*];done)
 ·obtain ⟨hk',hget,hr⟩:=Qk hd
  have hwi:=Qg (k:=k) (by omega)
  have e1:decide ((k:Int) < ((s.length:Nat):Int)) = true:=by simp;omega
  have hl:=(z0 c [45,95,46]).b
  rcases hb:asq c [45,95,46] with _|_
  ·have hw:ahK s = false:=by
    have:s.all (fun c=>asq c [45,95,46]) = false:=by
     rw [Zo];exact ⟨c,zq hget,by simp [hb]⟩
    rw [ahK,this];rfl
   rw [hb] at hl
   rw [hw]
   (have zx:=za e1 (za hwi hget));exact zg
  ·rw [hb] at hl
   (have zx:=za e1 (za hwi hget));refine zgo ?_;repeat' first|exact zt|apply zan|intro hc
   all_goals exact hL _ (k + 1) (Qf []) ⟨by omega,by rw [zJ,hget,List.all_append,hinv];simp [hb]⟩ (by omega) (zwg [])
structure NR (a:List Int):Prop where
 nd:a.Nodup
 rg:∀ x∈a,1≤x∧x≤16
theorem NR.add {a:List Int} (h:NR a) (l:List Int) (k:Nat):NR (if a.contains (1 + (Jf l k 16).1) = true then a else a++[1 + (Jf l k 16).1]):=by
 have hr:=QU (l:=l) (k:=k) (n:=16) (by omega) (by omega)
 split
 ·exact h
 ·rename_i hc
  have hx:1 + (Jf l k 16).1 ∉ a:=by simpa using hc
  refine ⟨kM.2 ⟨h.nd,by simp,fun x hx2 y hy e=>?_⟩,fun x hx2=>?_⟩
  ·simp at hy;subst hy;subst e;exact hx hx2
  ·rcases zU.1 hx2 with h1|h1
   ·exact h.rg x h1
   ·simp at h1;omega
end Av
end
