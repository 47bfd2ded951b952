/- K20 -/
import Derived.Test.YtlpaikjhphkioaaGreatK13
import Derived.Test.YtlpaikjhphkioaaGreatK19
import Derived.Test.YtlpaikjhphkioaaGreatK12
import Derived.Test.YtlpaikjhphkioaaGreatK14
set_option linter.unusedVariables false
set_option linter.unusedSimpArgs false
noncomputable section
set_option maxRecDepth 10000
set_option maxHeartbeats 4000000
namespace Av
open Go
attribute [local irreducible] AWp Uv qW xf awS awC abB awQ acd QZ UL aa2 awR Kc awB okR yu ris
section
variable {α:Type}
def gK (lt:α→α→Bool) (out:List α) (x:α):Nat→Nat
 | 0=>0
 | k + 1=>if (match out[k]? with|some y=>lt x y|none=>false) = true then gK lt out x k else k + 1
theorem aq2 (lt:α→α→Bool) (out:List α) (x:α):∀ k,gK lt out x k≤k
 | 0=>zj _
 | k + 1=>by
   rw [gK]
   by_cases h:(match out[k]? with|some y=>lt x y|none=>false) = true
   ·rw [if_pos h];exact Zp (aq2 lt out x k)
   ·rw [if_neg h];exact zj _
def adL (lt:α→α→Bool) (out:List α) (x:α):List α:=out.take (gK lt out x out.length)++[x]++out.drop (gK lt out x out.length)
def Xx (lt:α→α→Bool) (l:List α):List α:=l.foldl (adL lt) []
theorem ao8 (lt:α→α→Bool) (out:List α) (x:α):(adL lt out x).length = out.length + 1:=by
 have:=aq2 lt out x out.length
 simp [adL];omega
theorem ahP (lt:α→α→Bool):∀ (l out:List α),(l.foldl (adL lt) out).length = out.length + l.length
 | [],out=>by simp
 | x :: r,out=>by rw [List.foldl_cons,ahP lt r,ao8];simp;omega
theorem aaj (lt:α→α→Bool) (l:List α):(Xx lt l).length = l.length:=by rw [Xx,ahP];simp
theorem anB (lt:α→α→Bool) (x:α):Xx lt [x] = [x]:=by simp [Xx,adL,gK]
theorem ao7 {lt:α→α→Bool} {out:List α} {x y:α}:y∈adL lt out x↔y = x∨y∈out:=by
 have:y∈out↔y∈out.take (gK lt out x out.length)∨y∈out.drop (gK lt out x out.length):=by
  rw [← zT,Zd]
 simp only [adL,zT,zv,this]
 constructor
 ·rintro ((h|h)|h)
  ·exact .inr (.inl h)
  ·exact .inl h
  ·exact .inr (.inr h)
 ·rintro (h|h|h)
  ·exact .inl (.inr h)
  ·exact .inl (.inl h)
  ·exact .inr h
theorem ahO {lt:α→α→Bool} {y:α}:∀ (l out:List α),y∈l.foldl (adL lt) out↔y∈out∨y∈l
 | [],out=>by simp
 | x :: r,out=>by
   rw [List.foldl_cons,ahO r,ao7,zF]
   constructor
   ·rintro ((h|h)|h)
    ·exact .inr (.inl h)
    ·exact .inl h
    ·exact .inr (.inr h)
   ·rintro (h|h|h)
    ·exact .inl (.inr h)
    ·exact .inl (.inl h)
    ·exact .inr h
theorem adK {lt:α→α→Bool} {y:α} {l:List α}:y∈Xx lt l↔y∈l:=by rw [Xx,ahO];simp
theorem anE {lt:α→α→Bool} {out:List α} {x:α}:(adL lt out x).Perm (x :: out):=by
 have h:(out.take (gK lt out x out.length)++out.drop (gK lt out x out.length)).Perm out:=by rw [Zd]
 rw [adL,kE,List.singleton_append]
 exact List.perm_middle.trans (h.cons x)
theorem afA {lt:α→α→Bool}:∀ (l out:List α),(l.foldl (adL lt) out).Perm (l++out)
 | [],out=>by simp
 | x :: r,out=>by
   rw [List.foldl_cons,List.cons_append]
   exact ((afA r (adL lt out x)).trans (List.Perm.append_left r anE)).trans List.perm_middle
theorem j8 {lt:α→α→Bool} {l:List α}:(Xx lt l).Perm l:=by have:=afA (lt:=lt) l [];rwa [ki] at this
def Ord (lt:α→α→Bool) (l:List α):Prop:=l.Pairwise fun x y=>lt y x = false
theorem anD {lt:α→α→Bool} {out:List α} {x:α}:∀ k,k≤out.length→(∀ j,gK lt out x k≤j→j < k→∀ y,out[j]? = some y→lt x y = true)∧(0 < gK lt out x k→∀ y,out[gK lt out x k - 1]? = some y→lt x y = false)
 | 0,_=>⟨fun j h1 h2=>by omega,fun h=>by simp [gK] at h⟩
 | k + 1,hk=>by
   obtain ⟨i1,i2⟩:=anD (lt:=lt) (out:=out) (x:=x) k (by omega)
   have hy:out[k]? = some out[k]:=zd (by omega)
   simp only [gK,hy]
   split
   ·rename_i h
    refine ⟨fun j h1 h2 y e=>?_,i2⟩
    by_cases hj:j = k
    ·subst hj;rw [hy] at e;cases e;exact h
    ·exact i1 j h1 (by omega) y e
   ·rename_i h
    refine ⟨fun j h1 h2=>by omega,fun _ y e=>?_⟩
    rw [Nat.add_sub_cancel,hy] at e;cases e
    simpa using h
theorem ao6 {lt:α→α→Bool} (htr:∀ x y z,lt y x = false→lt z y = false→lt z x = false) (has:∀ x y,lt x y = true→lt y x = false) {out:List α} {x:α} (h:Ord lt out):Ord lt (adL lt out x):=by
 obtain ⟨h1,h2⟩:=anD (lt:=lt) (out:=out) (x:=x) out.length (zj _)
 have hle:=aq2 lt out x out.length
 unfold Ord adL at *
 generalize gK lt out x out.length = k at *
 have hto:(out.take k).Pairwise fun x y=>lt y x = false:=h.sublist (Z9 _ _)
 have hdr:(out.drop k).Pairwise fun x y=>lt y x = false:=h.sublist (List.drop_sublist _ _)
 have hcr:∀ a∈out.take k,∀ b∈out.drop k,lt b a = false:=by
  have:=h
  rw [← Zd k out,kV] at this
  exact this.2.2
 have hx1:∀ a∈out.take k,lt x a = false:=by
  intro a ha
  rcases ZJ k with hk|hk
  ·subst hk;simp at ha
  ·have hlast:out[k - 1]? = some out[k - 1]:=zd (by omega)
   have hxl:=h2 hk _ hlast
   obtain ⟨i,hi,rfl⟩:=kz ha
   simp only [zQ] at hi
   rw [ZR]
   by_cases e:i = k - 1
   ·subst e;exact hxl
   ·have:=(kr.1 h) i (k - 1) (by omega) (by omega) (by omega)
    exact htr _ _ _ this hxl
 have hx2:∀ b∈out.drop k,lt b x = false:=by
  intro b hb
  obtain ⟨i,hi,rfl⟩:=kz hb
  rw [List.getElem_drop]
  simp only [kf] at hi
  exact has _ _ (h1 (k + i) (by omega) (by omega) _ (zd (by omega)))
 rw [kE,List.singleton_append,kV]
 refine ⟨hto,ZL.2 ⟨hx2,hdr⟩,fun a ha b hb=>?_⟩
 rcases zF.1 hb with rfl|hb
 ·exact hx1 a ha
 ·exact hcr a ha b hb
theorem ahN {lt:α→α→Bool} (htr:∀ x y z,lt y x = false→lt z y = false→lt z x = false) (has:∀ x y,lt x y = true→lt y x = false):∀ (l out:List α),Ord lt out→Ord lt (l.foldl (adL lt) out)
 | [],_,h=>h
 | x :: r,out,h=>ahN htr has r _ (ao6 htr has h)
theorem ahS {lt:α→α→Bool} (htr:∀ x y z,lt y x = false→lt z y = false→lt z x = false) (has:∀ x y,lt x y = true→lt y x = false) (l:List α):Ord lt (Xx lt l):=ahN htr has l [] List.Pairwise.nil
def yC (lt:α→α→Bool) (xs:List α) (a i:Nat):List α:=xs.take a++(Xx lt ((xs.take i).drop a)++xs.drop i)
theorem ahT {lt:α→α→Bool} {xs:List α} {a:Nat} (h:a < xs.length):yC lt xs a (a + 1) = xs:=by
 have e:(xs.take (a + 1)).drop a = [xs[a]]:=by
  rw [zO,zd h,Zm (by simp;omega),Zv (by simp;omega)];rfl
 rw [yC,e,anB,List.singleton_append,← kj h,Zd]
theorem anC {lt:α→α→Bool} (xs:List α):yC lt xs 0 xs.length = Xx lt xs:=by simp [yC]
def X6 (P S:List α) (x:α) (R:List α) (q:Nat):List α:=P++(S.take q++x :: (S.drop q++R))
theorem ahR {P S R:List α} {x:α} {q:Nat}:(X6 P S x R q).length = P.length + S.length + 1 + R.length:=by
 simp only [X6,zq,List.length_cons,zQ,kf];omega
theorem anA {P S R:List α} {x:α} {q:Nat} (h:q≤S.length):(X6 P S x R q)[P.length + q]? = some x:=by
 have:(S.take q).length = q:=by simp;omega
 rw [X6,zY (by omega),zY (by omega),this]
 simp
theorem anz {P S R:List α} {x:α} {q:Nat} (h:q < S.length):(X6 P S x R (q + 1))[P.length + q]? = some S[q]:=by
 rw [X6,zY (by omega),zW (by simp;omega),Z6]
 simp [h]
theorem akq (S y x:α) (T:List α):∀ A:List α,((A++y :: S :: T).set (A.length + 1) y).set A.length x = A++x :: y :: T
 | []=>rfl
 | z :: A=>by
   have:=akq S y x T A
   simp only [List.cons_append,List.length_cons,List.set_cons_succ,this]
theorem ahQ {P S R:List α} {x:α} {q:Nat} (h:q < S.length):((X6 P S x R (q + 1)).set (P.length + (q + 1)) S[q]).set (P.length + q) x = X6 P S x R q:=by
 have e1:S.take (q + 1) = S.take q++[S[q]]:=by rw [zO,zd h];rfl
 have e2:S.drop q = S[q] :: S.drop (q + 1):=kj h
 have e3:(S.take q).length = q:=by simp;omega
 have e4:X6 P S x R (q + 1) = (P++S.take q)++S[q] :: x :: (S.drop (q + 1)++R):=by rw [X6,e1];simp only [kE,List.cons_append,List.nil_append]
 have e5:X6 P S x R q = (P++S.take q)++x :: S[q] :: (S.drop (q + 1)++R):=by rw [X6,e2];simp only [kE,List.cons_append,List.nil_append]
 have hl:(P++S.take q).length = P.length + q:=by rw [zq,e3]
 have hl2:P.length + (q + 1) = (P++S.take q).length + 1:=by omega
 rw [e4,e5,hl2,← hl]
 exact akq _ _ _ _ _
theorem aks {lt:α→α→Bool} {f:α→V} (xs:List α):(if 0 = xs.length then xs.map f else (yC lt xs 0 xs.length).map f) = (Xx lt xs).map f:=by
 split
 ·rename_i h
  have:xs = []:=kP h.symm
  subst this;rfl
 ·rw [anC]
end
theorem ajQ {n:Int} (h0:0≤n) (h1:n < 2 ^ 64):IntKind.u64.wrap n = n:=by
 have e1:IntKind.u64.bits = 64:=rfl
 have e2:IntKind.u64.signed = false:=rfl
 simp only [IntKind.wrap,e1,e2,zy,zB,if_false]
 omega
abbrev V.u64 (n:Int):V:=.sc (.int .u64 n)
def as4:Nat→Int
 | 0=>0|1=>1|2=>2|3=>2|4=>3|5=>3|6=>3|7=>3|8=>4|9=>4|10=>4|11=>4|_=>4
def ye:AC:=JN [0,2] (.reg [mc 2 (V.int 0)]) (JN [0,2] (JN [0,2,4] (.reg [mv 3 0,bc 4 .geq 3 (.sc (.int .u64 4294967296))]) (.cond (.t 4) (JN [0] (.reg [mv 5 0,bc 6 .shr 5 (.sc (.int .u64 32)),mv 0 6]) (.reg [mc 2 (V.int 32)])) .skip)) (JN [0,2] (JN [0,2,8] (.reg [mv 7 0,bc 8 .geq 7 (.sc (.int .u64 65536))]) (.cond (.t 8) (JN [0,2] (.reg [mv 9 0,bc 10 .shr 9 (.sc (.int .u64 16)),mv 0 10]) (.reg [mv 11 2,bc 12 .add 11 (V.int 16),mv 2 12])) .skip)) (JN [0,2] (JN [0,2,14] (.reg [mv 13 0,bc 14 .geq 13 (.sc (.int .u64 256))]) (.cond (.t 14) (JN [0,2] (.reg [mv 15 0,bc 16 .shr 15 (.sc (.int .u64 8)),mv 0 16]) (.reg [mv 17 2,bc 18 .add 17 (V.int 8),mv 2 18])) .skip)) (JN [2] (.reg [mv 19 2,mv 20 0,xo 21 (.convI .u8 (.t 20)),xo 22 (.idxS (.c (V.str [0,1,2,2,3,3,3,3,4,4,4,4,4,4,4,4,5,5,5,5,5,5,5,5,5,5,5,5,5,5,5,5,6,6,6,6,6,6,6,6,6,6,6,6,6,6,6,6,6,6,6,6,6,6,6,6,6,6,6,6,6,6,6,6,7,7,7,7,7,7,7,7,7,7,7,7,7,7,7,7,7,7,7,7,7,7,7,7,7,7,7,7,7,7,7,7,7,7,7,7,7,7,7,7,7,7,7,7,7,7,7,7,7,7,7,7,7,7,7,7,7,7,7,7,7,7,7,7,8,8,8,8,8,8,8,8,8,8,8,8,8,8,8,8,8,8,8,8,8,8,8,8,8,8,8,8,8,8,8,8,8,8,8,8,8,8,8,8,8,8,8,8,8,8,8,8,8,8,8,8,8,8,8,8,8,8,8,8,8,8,8,8,8,8,8,8,8,8,8,8,8,8,8,8,8,8,8,8,8,8,8,8,8,8,8,8,8,8,8,8,8,8,8,8,8,8,8,8,8,8,8,8,8,8,8,8,8,8,8,8,8,8,8,8,8,8,8,8,8,8,8,8,8,8,8,8])) (.t 21)),xo 23 (.convI .i64 (.t 22)),bn 24 .add 19 23,mv 2 24]) .ret)))) def bq:List Kx:=[.tmp 2]
def Ue (Γ:Env) (f:Nat):Prop:=∀ (n:Nat) (hn:n≤12),EvN Γ f [V.u64 n] (V.int (as4 n))
theorem aas {Γ:Env} {f:Nat} (h:Has Γ.P f 25 ye bq) :Ue Γ f:=by
 intro n hn
 refine Qb h zsi zcl zcl fun C hC hm=>?_
 subst hC
 unfold ye
 have hn':n = 0∨n = 1∨n = 2∨n = 3∨n = 4∨n = 5∨n = 6∨n = 7∨n = 8∨n = 9∨n = 10∨n = 11∨n = 12:=by omega
 have e1:decide ((n:Int)≥4294967296) = false:=by simp;omega
 have e2:decide ((n:Int)≥65536) = false:=by simp;omega
 have e3:decide ((n:Int)≥256) = false:=by simp;omega
 have hw:IntKind.u8.wrap (n:Int) = (n:Int):=aql (by omega) (by omega)
 obtain ⟨c,hc1,hc2⟩:∃ c:UInt8,([0,1,2,2,3,3,3,3,4,4,4,4,4]:List UInt8)[n]? = some c∧(c.toNat:Int) = as4 n:=by
  rcases hn' with rfl|rfl|rfl|rfl|rfl|rfl|rfl|rfl|rfl|rfl|rfl|rfl|rfl<;>exact ⟨_,rfl,rfl⟩
 have hget:∀ l:List UInt8,l.take 13 = [0,1,2,2,3,3,3,3,4,4,4,4,4]→l[n]? = some c:=fun l hl=>by
  rw [← hc1,← hl,Z6,if_pos (by omega)]
 have hc3:0≤(c.toNat:Int)∧(c.toNat:Int) < 256:=by have:=c.toNat_lt;omega
 have hw2:IntKind.i64.wrap (c.toNat:Int) = (c.toNat:Int):=QG (by omega) (by omega)
 have hw3:IntKind.i64.wrap (0 + (c.toNat:Int)) = (c.toNat:Int):=by rw [Int.zero_add,hw2]
 rw [← hc2]
 have hg:([0,1,2,2,3,3,3,3,4,4,4,4,4,4,4,4,5,5,5,5,5,5,5,5,5,5,5,5,5,5,5,5,6,6,6,6,6,6,6,6,6,6,6,6,6,6,6,6,6,6,6,6,6,6,6,6,6,6,6,6,6,6,6,6,7,7,7,7,7,7,7,7,7,7,7,7,7,7,7,7,7,7,7,7,7,7,7,7,7,7,7,7,7,7,7,7,7,7,7,7,7,7,7,7,7,7,7,7,7,7,7,7,7,7,7,7,7,7,7,7,7,7,7,7,7,7,7,7,8,8,8,8,8,8,8,8,8,8,8,8,8,8,8,8,8,8,8,8,8,8,8,8,8,8,8,8,8,8,8,8,8,8,8,8,8,8,8,8,8,8,8,8,8,8,8,8,8,8,8,8,8,8,8,8,8,8,8,8,8,8,8,8,8,8,8,8,8,8,8,8,8,8,8,8,8,8,8,8,8,8,8,8,8,8,8,8,8,8,8,8,8,8,8,8,8,8,8,8,8,8,8,8,8,8,8,8,8,8,8,8,8,8,8,8,8,8,8,8,8,8,8,8,8,8,8,8]:List UInt8)[n]? = some c:=hget _ rfl
 (have zx:=za e1 (za e2 (za e3 (za hw (za hg (za hw2 hw3))))));exact zg
def VS:=qd Proofs.Tryz.f117 []
def Xv (Γ:Env) (f:Nat):Prop:=∀ (n:Nat) (hn:n≤12),EvN Γ f [V.u64 n] (V.int (as4 n))
theorem acH {Γ:Env} {f:Nat} (h:Has Γ.P f 8 VS.1.1.ac VS.1.2) (z0:Ue Γ 162):Xv Γ f:=by
 intro n hn
 refine Qb h zsi zcl zcl fun C hC hm=>?_
 subst hC
 simp only [VS,qd,DC.ac]
 exact zg
theorem afO {Γ:Env} {f:Nat} (h:Xv Γ f) (n:Nat) (hn:n≤12):∃ lim:Int,EvN Γ f [V.u64 n] (V.int lim):=⟨_,h n hn⟩
def XF:=qd Proofs.Tryz.f132 []
def Vn (Γ:Env) (f:Nat):Prop:=∀ (n:Int),EvN Γ f [V.int n] (V.bool false)
theorem vw {Γ:Env} {f:Nat} (h:Has Γ.P f 6 XF.1.1.ac XF.1.2) :Vn Γ f:=by
 intro n
 refine Qb h zsi zcl zcl fun C hC hm=>?_
 subst hC
 simp only [XF,qd,DC.ac]
 have e:(n != n) = false:=by simp
 (have zx:=e);exact zg
def U2:=qd Proofs.Tryz.f131 []
def X2 (Γ:Env) (f:Nat):Prop:=∀ (a b:Int),EvN Γ f [V.int a,V.int b] (V.bool (decide (a < b)))
theorem ad0 {Γ:Env} {f:Nat} (h:Has Γ.P f 17 U2.1.1.ac U2.1.2) (z0:Vc Γ 164):X2 Γ f:=by
 intro a b
 refine Qb h zsi zcl zcl fun C hC hm=>?_
 subst hC
 simp only [U2,qd,DC.ac]
 repeat' (first|(refine zsk ?_;intro K' hK)|refine zsp ?_|(refine zsc ?_ ?_<;>intro hc<;>first|exact znh|try simp only [znz] at hc)|simp (maxSteps:=1000000) only [go_sem]|(refine hK _ ?_;clear hK K')|apply zan|(apply QF;(focus first|exact (z0 _).b))|exact zsq|fail)
 all_goals exact zr
def Jr:=qd Proofs.Tryz.f110 []
def J4 (Γ:Env) (f:Nat):Prop:=∀ (l:List Int) (x:Int) (hl:l.length < 2 ^ 34),EvN Γ f [.sl 1 (l.map V.int),V.int x] (.tup [V.int (bsI ltJ l x:Nat),V.bool (J0 l (bsI ltJ l x) x)])
attribute [local go_sem] Ju in
theorem Uw {Γ:Env} {f:Nat} (h:Has Γ.P f 54 Jr.1.1.ac Jr.1.2) (z0:X2 Γ 131) (z1:Vn Γ 132):J4 Γ f:=by
 intro l x hl
 refine Qb h zsi zcl zcl fun C hC hm=>?_
 subst hC
 simp only [Jr,qd,DC.ac]
 refine zgo ?_;repeat' first|exact zt|apply zan|intro hc
 refine Qo (ι:=Nat×Nat×Nat) (fun q=>q.2.1≤q.2.2∧q.2.2≤l.length∧q.2.2 - q.2.1≤q.1∧aiJ ltJ l x q.1 q.2.1 q.2.2 = bsI ltJ l x) (fun q=>Ju [(0,.sl 1 (l.map V.int)),(1,V.int x),(6,V.int l.length),(7,V.int q.2.1),(8,V.int q.2.2)] [] 0) (fun q=>q.2.2 - q.2.1) (l.length,0,l.length) ⟨zH _,zj _,by simp,rfl⟩ (Qe []) (Qg [] (by simp only [go_sem,zwl,zb]<;>exact zcc) zwa (by simp) (by simp) (by omega)) fun q hq K' hL=>?_
 obtain ⟨n,i,j⟩:=q
 simp only at hq hL ⊢
 obtain ⟨h1,h2,h3,h4⟩:=hq
 have hb:bsI ltJ l x≤l.length:=aip
 by_cases hij:i < j
 ·obtain ⟨n,rfl⟩:∃ m,n = m + 1:=⟨n - 1,by omega⟩
  have e1:decide ((i:Int) < (j:Int)) = true:=zo (by omega)
  have hh:=afz (a:=i) (b:=j) (by omega)
  rw [aiJ,if_pos hij] at h4
  have r1:i≤(i + j) / 2:=by omega
  have r2:(i + j) / 2 < j:=by omega
  generalize (i + j) / 2 = r at *
  obtain ⟨y,hy⟩:∃ y,l[r]? = some y:=⟨_,zd (by omega)⟩
  rw [hy] at h4
  simp only at h4
  have p1:EvB C.env 131 [V.int y,V.int x] (V.bool (ltJ y x)) none:=(z0 y x).b
  have hwr:=Qf (k:=r) (by omega)
  rcases hlt:ltJ y x with _|_
  ·rw [hlt] at p1 h4
   rw [if_neg (by decide)] at h4
   (have zx:=za e1 (za hh (za hwr hy)));refine zgo ?_;repeat' first|exact zt|apply zan|intro hc
   all_goals exact hL _ (n,i,r) (Qe []) ⟨by simp only;omega,by simp only;omega,by simp only;omega,h4⟩ (by simp only;omega) (zwg [])
  ·rw [hlt] at p1 h4
   rw [if_pos rfl] at h4
   (have zx:=za e1 (za hh (za hwr hy)));refine zgo ?_;repeat' first|exact zt|apply zan|intro hc
   all_goals exact hL _ (n,r + 1,j) (Qe []) ⟨by simp only;omega,by simp only;omega,by simp only;omega,h4⟩ (by simp only;omega) (zwg [])
 ·have e1:decide ((i:Int) < (j:Int)) = false:=zp (by omega)
  have hbi:bsI ltJ l x = i:=by
   rw [← h4]
   rcases n with _|n
   ·rfl
   ·rw [aiJ,if_neg hij]
  rw [hbi]
  by_cases hil:i < l.length
  ·have e2:decide ((i:Int) < (l.length:Int)) = true:=zo (by omega)
   obtain ⟨y,hy⟩:∃ y,l[i]? = some y:=⟨_,zd hil⟩
   have hf:J0 l i x = (y == x):=by simp only [J0,hy]
   have p2:=(z1 y).b
   rw [hf]
   rcases hyx:y == x with _|_
   ·(have zx:=za e1 (za e2 (za hyx hy)));exact zg
   ·(have zx:=za e1 (za e2 (za hyx hy)));exact zg
  ·have e2:decide ((i:Int) < (l.length:Int)) = false:=zp (by omega)
   have hf:J0 l i x = false:=by rw [J0,zX (by omega)]
   rw [hf]
   (have zx:=za e1 e2);exact zg
def WG (Γ:Env) (f:Nat):Prop:=((∀ (xs:List Int) (i:Nat) (x:Int),i≤xs.length→0 < xs.length→xs.length < 2 ^ 30→asR Γ f (V.int i) 1 (xs.map V.int) [V.int x] ((xs.take i++x :: xs.drop i).map V.int))∧(∀ x:Int,EvW Γ f [aa1,V.int 0,.sl 1 [V.int x]] 1 [V.int x]))
def JG:=qd Proofs.Tryz.f87 []
def XC (Γ:Env) (f:Nat):Prop:=((∀ (xs:List Int) (x:Int),0 < xs.length→xs.length < 2 ^ 30→J0 xs (bsI ltJ xs x) x = true→EvX Γ f [V.int x] 1 (xs.map V.int))∧(∀ (xs:List Int) (x:Int),0 < xs.length→xs.length < 2 ^ 30→J0 xs (bsI ltJ xs x) x = false→EvI Γ f [V.int x] 1 (xs.map V.int) ((acx ltJ xs x).map V.int))∧(∀ x:Int,EvW Γ f [aa1,V.int x] 1 [V.int x]))
theorem xz {Γ:Env} {f:Nat} (h:Has Γ.P f 20 JG.1.1.ac JG.1.2) (z0:J4 Γ 110) (z1:WG Γ 111):XC Γ f:=by
 obtain ⟨hI,hW⟩:=z1
 refine ⟨fun xs x h0 hl hf=>?_,fun xs x h0 hl hf=>?_,fun x=>?_⟩
 ·refine qr h (by simp) fun C hC hm=>?_
  subst hC
  simp only [JG,qd,DC.ac]
  have hb:=(z0 xs x (by omega)).b
  rw [hf] at hb
  have ht:List.take (xs.map V.int).length (xs.map V.int) = xs.map V.int:=zR
  (have zx:=ht);refine zgo ?_;repeat' first|exact zt|apply zan|intro hc
  all_goals first|(refine ah9 _ rfl rfl rfl ?_;first|rfl|(simp;done))
 ·refine ad5 h (by simp) fun C hC hm=>?_
  subst hC
  simp only [JG,qd,DC.ac]
  have hb:=(z0 xs x (by omega)).b
  have hi:=hI xs (bsI ltJ xs x) x aip h0 hl
  rw [acx,if_neg (by rw [hf];decide)]
  rw [hf] at hb
  have ht:List.take (xs.map V.int).length (xs.map V.int) = xs.map V.int:=zR
  generalize bsI ltJ xs x = i at *
  repeat' (first|(refine zsk ?_;intro K' hK)|refine zsp ?_|(refine zsc ?_ ?_<;>intro hc<;>first|exact znh|try simp only [znz] at hc)|simp (maxSteps:=1000000) only [go_sem,ht]|(refine hK _ ?_;clear hK K')|apply zan|(apply aiu;(focus exact rfl);(focus first|exact hi);(focus exact rfl);(focus exact rfl);(focus (first|exact rfl|(simp;done))))|(apply aen;(focus exact rfl);(focus exact rfl);(focus first|exact hi);(focus exact rfl);(focus (first|exact rfl|(simp;done)));(focus (first|exact rfl|(simp;done))))|(apply QF;(focus first|exact hb|exact (z0 _ _ zsd).b))|exact zsq|fail)
  all_goals first|(refine aqh _ _ rfl ⟨_,rfl⟩ rfl (by omega) rfl ?_;first|rfl|(simp;done))
 ·refine XX h (by simp) (by intro y hy;rw [zv.1 hy];simp only [V.noSl]) fun C hC hm=>?_
  subst hC
  simp only [JG,qd,DC.ac]
  have hb:=(z0 [] x (by simp)).b
  have hw:=hW x
  simp only [zK] at hb
  have hb:=hb.le2 (LeV.nil 1) (LeV.refl _)
  refine zgo ?_;repeat' first|exact zt|apply zan|intro hc
  all_goals first|(refine yc (xs:=[V.int x]) _ _ rfl ?_ ?_<;>first|rfl|(simp;done))
def Yo:=qd Proofs.Tryz.f38 []
def Yg (Γ:Env) (f:Nat):Prop:=∀ (l:List Int) (hl:l.length < 2 ^ 34),EvW Γ f [.sl 1 (l.map V.int)] 1 (l.map V.int)
theorem jD {Γ:Env} {f:Nat} (h:Has Γ.P f 8 Yo.1.1.ac Yo.1.2) :Yg Γ f:=by
 intro l hl
 refine XX h (by simp) (by first|exact adF _|exact adb _) fun C hC hm=>?_
 subst hC
 simp only [Yo,qd,DC.ac]
 rcases l with _|⟨x,r⟩
 ·repeat' (first|(refine zsk ?_;intro K' hK)|refine zsp ?_|(refine zsc ?_ ?_<;>intro hc<;>first|exact znh|try simp only [znz] at hc)|simp (maxSteps:=1000000) only [go_sem]|(refine hK _ ?_;clear hK K')|apply zan|exact zsq|fail)
  intro t
  rcases t with _|_
  ·repeat' (first|(refine zsk ?_;intro K' hK)|refine zsp ?_|(refine zsc ?_ ?_<;>intro hc<;>first|exact znh|try simp only [znz] at hc)|simp (maxSteps:=1000000) only [go_sem]|(refine hK _ ?_;clear hK K')|apply zan|exact zsq|fail)
   all_goals (refine yc (xs:=[]) _ _ rfl ?_ ?_<;>first|rfl|(simp;done))
  ·repeat' (first|(refine zsk ?_;intro K' hK)|refine zsp ?_|(refine zsc ?_ ?_<;>intro hc<;>first|exact znh|try simp only [znz] at hc)|simp (maxSteps:=1000000) only [go_sem]|(refine hK _ ?_;clear hK K')|apply zan|exact zsq|fail)
   all_goals (refine yc (xs:=[]) _ _ rfl ?_ ?_<;>first|rfl|(simp;done))
 ·repeat' (first|(refine zsk ?_;intro K' hK)|refine zsp ?_|(refine zsc ?_ ?_<;>intro hc<;>first|exact znh|try simp only [znz] at hc)|simp (maxSteps:=1000000) only [go_sem]|(refine hK _ ?_;clear hK K')|apply zan|exact zsq|fail)
  all_goals first
   | (simp only [zb,List.length_cons] at hl ⊢;omega)
   | (refine yc (xs:=V.int x :: List.map V.int r) _ _ rfl ?_ ?_<;>first|rfl|(simp;done))
end Av
end
