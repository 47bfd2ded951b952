/- B16 -/
import Derived.Test.YtphclkkggijicaaGreatDoorB15
import Derived.Lib.IndexLaws
import Derived.Lib.AtoiAllCases
import Derived.Test.YtphclkkggijicaaGreatDoorB12
import Derived.Test.YtphclkkggijicaaGreatDoorB14
set_option linter.unusedVariables false
set_option linter.unusedSimpArgs false
noncomputable section
set_option maxRecDepth 10000
set_option maxHeartbeats 4000000
namespace Av
open Go
attribute [local irreducible] AWp W7 Kx jy awS awC vE awQ aay QP W6 vu awR Vn awB okR jx ris
theorem UA {k:Nat} (h:k < 10):(UInt8.ofNat (48 + k)).toNat = 48 + k:=by
 rw [UInt8.toNat_ofNat'];omega
theorem afl (d:UInt8):∀ (l:List UInt8) (acc:Int),aaK acc (l++[d]) = (aaK acc l).bind fun n=>if d.toNat < 48∨57 < d.toNat then none else some (n * 10 + ((d.toNat:Int) - 48))
 | [],acc=>by simp [aaK]
 | c :: l,acc=>by
   simp only [List.cons_append,aaK]
   split
   ·rfl
   ·exact afl d l _
theorem ajx:∀ (k u:Nat),u < k→aaK 0 (Lib.decDigits u) = some (u:Int)
 | 0,u,h=>by omega
 | k + 1,u,h=>by
   rw [Lib.decDigits]
   split
   ·rename_i hu
    simp only [aaK,UA hu]
    rw [if_neg (by omega)]
    congr 1;omega
   ·rename_i hu
    rw [afl,ajx k (u / 10) (by omega),Option.bind_some,UA (by omega),if_neg (by omega)]
    congr 1;omega
theorem ao7 (d:UInt8):∀ (l:List UInt8) (acc n:Nat),Lib.parseUint10 acc l = .ok n→48≤d.toNat∧d.toNat≤57→n < 1844674407370955161→Lib.parseUint10 acc (l++[d]) = .ok (n * 10 + (d.toNat - 48))
 | [],acc,n,h,hd,hn=>by
   simp only [Lib.parseUint10,Lib.NumEnd.ok.injEq] at h
   subst h
   simp only [List.nil_append,Lib.parseUint10]
   rw [if_pos hd,if_neg (by omega),if_neg (by omega)]
 | c :: l,acc,n,h,hd,hn=>by
   simp only [Lib.parseUint10] at h
   simp only [List.cons_append,Lib.parseUint10]
   split at h
   ·rename_i h1
    rw [if_pos h1]
    split at h
    ·cases h
    ·rename_i h2
     rw [if_neg h2]
     split at h
     ·cases h
     ·rename_i h3
      rw [if_neg h3]
      exact ao7 d l _ n h hd hn
   ·cases h
theorem ao6:∀ (k u:Nat),u < k→u < 1000000000000000000→Lib.parseUint10 0 (Lib.decDigits u) = .ok u
 | 0,u,h,_=>by omega
 | k + 1,u,h,hb=>by
   rw [Lib.decDigits]
   split
   ·rename_i hu
    have e:=UA hu
    simp only [Lib.parseUint10,e]
    rw [if_pos (by omega),if_neg (by omega),if_neg (by omega)]
    congr 1;omega
   ·rename_i hu
    have e:=UA (k:=u % 10) (by omega)
    rw [ao7 _ _ _ (u / 10) (ao6 k (u / 10) (by omega) (by omega)) (by omega) (by omega),e]
    congr 1;omega
theorem afX:∀ (k u:Nat),u < k→∃ c r,Lib.decDigits u = c :: r∧48≤c.toNat∧c.toNat≤57∧(0 < u→c.toNat≠48)
 | 0,u,h=>by omega
 | k + 1,u,h=>by
   rw [Lib.decDigits]
   split
   ·rename_i hu
    exact ⟨_,_,rfl,by rw [UA hu];omega,by rw [UA hu];omega,fun h=>by rw [UA hu];omega⟩
   ·rename_i hu
    obtain ⟨c,r,h1,h2,h3,h4⟩:=afX k (u / 10) (by omega)
    exact ⟨c,r++[_],by rw [h1];rfl,h2,h3,fun _=>h4 (by omega)⟩
theorem abG {n:Int} (h0:0≤n) (h1:n < 1000000000000000000):Lib.atoiAll (Lib.itoa n) = .ok n:=by
 have e:Lib.itoa n = Lib.decDigits n.toNat:=by rw [Lib.itoa,if_neg (by omega)]
 obtain ⟨c,r,hc,h2,h3,_⟩:=afX (n.toNat + 1) n.toNat (by omega)
 have hp:=ao6 (n.toNat + 1) n.toNat (by omega) (by omega)
 have hm:Lib.parseMag (c :: r) = .ok n.toNat:=by rw [Lib.parseMag,if_neg (by simp),← hc];exact hp
 have ha:Lib.atoiAll (c :: r) = .ok n:=by
  rw [Lib.atoiAll_plain c r (by omega) (by omega),hm]
  simp only [Lib.signless]
  rw [if_neg (by omega)]
  congr 1;omega
 rw [e,hc,ha]
theorem alf {n:Int} (h0:0≤n) (h1:n < 1000000000000000000):XI (Lib.itoa n) = n:=by rw [XI,abG h0 h1]
theorem agW:∀ (l:List UInt8) (acc n:Int),0≤acc→aaK acc l = some n→acc≤n
 | [],acc,n,_,h=>by simp only [aaK,zd] at h;omega
 | c :: l,acc,n,h0,h=>by
   simp only [aaK] at h
   split at h
   ·cases h
   ·have:=agW l _ n (by omega) h
    omega
theorem aqj:∀ (k:Nat) (l:List UInt8) (n:Int),l.length≤k→l≠[]→(1 < l.length→l[0]?≠some 48)→aaK 0 l = some n→0≤n∧Lib.decDigits n.toNat = l:=by
 intro k
 induction k with
 | zero=>intro l n hk h;simp at hk;exact (h hk).elim
 | succ k ih =>
   intro l0 n hk h0 hz h
   obtain ⟨l,d,rfl⟩:∃ l d,l0 = l++[d]:=⟨l0.dropLast,l0.getLast h0,(List.dropLast_concat_getLast h0).symm⟩
   rw [afl] at h
   cases hl:aaK 0 l with
   | none=>rw [hl] at h;cases h
   | some m =>
     rw [hl,Option.bind_some] at h
     split at h
     ·cases h
     ·rename_i hd
      simp only [zd] at h
      have hdd:UInt8.ofNat (48 + (d.toNat - 48)) = d:=by
       apply UInt8.toNat_inj.1
       rw [UA (by omega)];omega
      rcases l with _|⟨c,l⟩
      ·simp only [aaK,zd] at hl
       subst hl
       refine ⟨by omega,?_⟩
       have e:n.toNat = d.toNat - 48:=by omega
       rw [e,Lib.decDigits,dif_pos (by omega),hdd]
       rfl
      ·have hz':c≠48:=by
        intro hc
        exact hz (by simp) (by simp [hc])
       obtain ⟨h1,h2⟩:=ih (c :: l) m (by simp at hk ⊢;omega) (by simp) (fun _=>by simpa using hz') hl
       have hm:1≤m:=by
        simp only [aaK] at hl
        split at hl
        ·cases hl
        ·rename_i hc
         have:=agW l _ m (by omega) hl
         have hc':c.toNat≠48:=fun h=>hz' (UInt8.toNat_inj.1 (by simpa using h))
         omega
       refine ⟨by omega,?_⟩
       rw [Lib.decDigits,dif_neg (by omega)]
       have e1:n.toNat / 10 = m.toNat:=by omega
       have e2:n.toNat % 10 = d.toNat - 48:=by omega
       rw [e1,e2,h2,hdd]
theorem amr {r:List UInt8} {n:Int} (h:jV r = (n,true)):Lib.itoa n = r∧0≤n∧n < 1000000000000000:=by
 unfold jV at h
 split at h
 ·simp at h
 ·rename_i hb
  cases hn:aaK 0 r with
  | none=>rw [hn] at h;simp at h
  | some m =>
    rw [hn] at h
    simp only [Prod.mk.injEq,and_true] at h
    subst h
    obtain ⟨h1,h2⟩:=aqj r.length r m (zi _) (fun h=>hb (.inl h)) (fun h1 h2=>hb (.inr (.inr ⟨h1,h2⟩))) hn
    refine ⟨by rw [Lib.itoa,if_neg (by omega),h2],h1,?_⟩
    have hl:r.length≤15:=by omega
    have key:∀ (l:List UInt8) (acc n:Int),0≤acc→aaK acc l = some n→n < (acc + 1) * ((10 ^ l.length:Nat):Int):=by
     intro l
     induction l with
     | nil=>intro acc n h0 h;simp only [aaK,zd] at h;simp;omega
     | cons c l ih =>
       intro acc n h0 h
       simp only [aaK] at h
       split at h
       ·cases h
       ·have:=ih _ n (by omega) h
        have e:((10 ^ (c :: l).length:Nat):Int) = 10 * ((10 ^ l.length:Nat):Int):=by
         rw [List.length_cons,Nat.pow_succ];omega
        rw [e]
        have h3:(0:Int)≤((10 ^ l.length:Nat):Int):=Int.natCast_nonneg _
        generalize ((10 ^ l.length:Nat):Int) = P at *
        have h2:acc * 10 + ((c.toNat:Int) - 48) + 1≤(acc + 1) * 10:=by omega
        have h4:=Int.mul_le_mul_of_nonneg_right h2 h3
        rw [Int.mul_assoc] at h4
        exact Int.lt_of_lt_of_le this h4
    have h3:=key r 0 m (by omega) hn
    have h4:=ao8 hl
    simp only [Int.zero_add,Int.one_mul] at h3
    omega
def vK:Qo:=⟨0,[],0,0,0,0,0,0,0,0,0,0⟩
def XD (c:Int):Qo:=if 1≤c∧c≤16 then Qs.getD (c - 1).toNat vK else vK
def Xj (c:Int):V:=.tup [(XD c).v,V.int (if 1≤c∧c≤16 then 0 else 8)]
theorem UY (c:Int):(Xj c).closed:=by simp only [Xj,Qo.v,Qo.cells,V.closed,Qa,and_self]
theorem jN (c:Int):(Xj c).noSl:=by simp only [Xj,Qo.v,Qo.cells,V.noSl,UJ,and_self]
theorem YJ:Qs.length = 16:=rfl
theorem acx {c:Int} (h:1≤c∧c≤16):(Qs.map Qo.v)[(c - 1).toNat]? = some (XD c).v:=by
 have hk:(c - 1).toNat < Qs.length:=by rw [YJ];omega
 rw [zq,XD,if_pos h,zo,zf hk,Option.getD_some];rfl
theorem acw {c:Int} (h:¬ (1≤c∧c≤16)):XD c = vK:=by rw [XD,if_neg h]
def Vl:=qd Proofs.Tryz.f116 []
def WJ (Γ:Env) (f:Nat):Prop:=∀ (c:Int),EvN Γ f [V.int c] (Xj c)
attribute [local go_sem] Qo.cells Qo.v in
theorem ab7 {Γ:Env} {f:Nat} (h:Has Γ.P f 20 Vl.1.1.ac Vl.1.2) (z0:YU Γ 147):WJ Γ f:=by
 intro c
 refine Qb h zsi (by first|exact UY c|exact jN c) (by first|exact UY c|exact jN c) fun C hC hm=>?_
 subst hC
 simp only [Vl,qd,DC.ac]
 have hl:=YJ
 by_cases h:1≤c∧c≤16
 ·have hg:=acx h
  have hw:IntKind.i64.wrap (c - 1) = c - 1:=Jc (by omega) (by omega)
  have e1:decide (c < 1) = false:=by simp;omega
  have e2:decide (c > 16) = false:=by simp;omega
  have e3:decide (c > (((Qs.map Qo.v).length:Nat):Int)) = false:=by simp [hl];omega
  (have zx:=za hg (za hw (za e1 (za e2 e3))));refine zgo ?_;repeat' first|exact zt|apply zan|intro hc
  all_goals (simp only [Xj,if_pos h,Qo.v,Qo.cells];refine Qf _ rfl ?_;simp only [go_sem])
 ·have h0:=acw h
  by_cases h1:c < 1
  ·have e1:decide (c < 1) = true:=by simp;omega
   (have zx:=e1);refine zgo ?_;repeat' first|exact zt|apply zan|intro hc
   all_goals (simp only [Xj,if_neg h,h0,vK,Qo.v,Qo.cells];refine Qf _ rfl ?_;simp only [go_sem])
  ·have e1:decide (c < 1) = false:=by simp;omega
   have e2:decide (c > (((Qs.map Qo.v).length:Nat):Int)) = true:=by simp [hl];omega
   (have zx:=za e1 e2);refine zgo ?_;repeat' first|exact zt|apply zan|intro hc
   all_goals (simp only [Xj,if_neg h,h0,vK,Qo.v,Qo.cells];refine Qf _ rfl ?_;simp only [go_sem])
def yh:=qd Proofs.Tryz.f167 []
def x8 (Γ:Env) (f:Nat):Prop:=∀ (a b:Int),EvN Γ f [V.int a,V.int b] (.agg [V.int a,V.int b])
theorem ahr {Γ:Env} {f:Nat} (h:Has Γ.P f 8 yh.1.1.ac yh.1.2) :x8 Γ f:=by
 intro a b
 refine Qb h zsi zcl zcl fun C hC hm=>?_
 subst hC
 simp only [yh,qd,DC.ac]
 refine zgo ?_;repeat' first|exact zt|apply zan|intro hc
 refine Qf _ rfl ?_;simp only [go_sem]
def Kh:=qd Proofs.Tryz.f168 []
def jq (Γ:Env) (f:Nat):Prop:=∀ (c:Int) (n:List UInt8) (a1 a2 b1 b2 c1 c2 d1 d2 lo up:Int),EvN Γ f [V.int c,V.str n,.agg [V.int a1,V.int a2],.agg [V.int b1,V.int b2],.agg [V.int c1,V.int c2],.agg [V.int d1,V.int d2],V.int lo,V.int up] (.agg [V.int c,V.str n,V.int a1,V.int a2,V.int b1,V.int b2,V.int c1,V.int c2,V.int d1,V.int d2,V.int lo,V.int up])
theorem ad4 {Γ:Env} {f:Nat} (h:Has Γ.P f 26 Kh.1.1.ac Kh.1.2) :jq Γ f:=by
 intro c n a1 a2 b1 b2 c1 c2 d1 d2 lo up
 refine Qb h zsi zcl zcl fun C hC hm=>?_
 subst hC
 simp only [Kh,qd,DC.ac]
 refine zgo ?_;repeat' first|exact zt|apply zan|intro hc
 refine Qf _ rfl ?_;simp only [go_sem]
def Uk:=qd Proofs.Tryz.f122 [zhn 82]
def XK (Γ:Env) (f:Nat):Prop:=EvC Γ f [] (.sl 12 (Qs.map Qo.v))
theorem ac2 {Γ:Env} {f:Nat} (h:Has Γ.P f 110 Uk.1.1.ac Uk.1.2) (z0:x8 Γ 167) (z1:jq Γ 168):XK Γ f:=by
 refine Qn h zsi (by simp only [V.closed]) fun C hC hm=>?_
 subst hC
 simp only [Uk,qd,DC.ac]
 refine zgo ?_;repeat' first|exact zt|apply zan|intro hc
 refine Qf _ rfl ?_;simp only [go_sem]
 rfl
def Kk:=qd Proofs.Tryz.f58 []
def js (Γ:Env) (f:Nat):Prop:=∀ (c:Int),EvN Γ f [V.int c] (Xj c)
attribute [local go_sem] Qo.cells Qo.v in
theorem ad7 {Γ:Env} {f:Nat} (h:Has Γ.P f 16 Kk.1.1.ac Kk.1.2) (z0:XK Γ 122):js Γ f:=by
 intro c
 refine Qb h zsi (by first|exact UY c|exact jN c) (by first|exact UY c|exact jN c) fun C hC hm=>?_
 subst hC
 simp only [Kk,qd,DC.ac]
 have hl:=YJ
 by_cases h:1≤c∧c≤16
 ·have hg:=acx h
  have hw:IntKind.i64.wrap (c - 1) = c - 1:=Jc (by omega) (by omega)
  have e1:decide (c < 1) = false:=by simp;omega
  have e2:decide (c > 16) = false:=by simp;omega
  (have zx:=za hg (za hw (za e1 e2)));refine zgo ?_;repeat' first|exact zt|apply zan|intro hc
  all_goals (simp only [Xj,if_pos h,Qo.v,Qo.cells];refine Qf _ rfl ?_;simp only [go_sem])
 ·have h0:=acw h
  by_cases h1:c < 1
  ·have e1:decide (c < 1) = true:=by simp;omega
   (have zx:=e1);refine zgo ?_;repeat' first|exact zt|apply zan|intro hc
   all_goals (simp only [Xj,if_neg h,h0,vK,Qo.v,Qo.cells];refine Qf _ rfl ?_;simp only [go_sem])
  ·have e1:decide (c < 1) = false:=by simp;omega
   have e2:decide (c > 16) = true:=by simp;omega
   (have zx:=za e1 e2);refine zgo ?_;repeat' first|exact zt|apply zan|intro hc
   all_goals (simp only [Xj,if_neg h,h0,vK,Qo.v,Qo.cells];refine Qf _ rfl ?_;simp only [go_sem])
def VS {α:Type} (p:α→Bool):Nat→List α→Int
 | _,[]=>-1
 | k,x :: r=>if p x = true then k else VS p (k + 1) r
theorem aeN {α:Type} (p:α→Bool):∀ (l:List α) (k:Nat),-1≤VS p k l∧VS p k l≤((k + l.length:Nat):Int)
 | [],k=>by simp [VS]<;>omega
 | x :: r,k=>by
   have:=aeN p r (k + 1)
   simp only [VS,List.length_cons]
   split<;>omega
def QI:=qd Proofs.Tryz.f213 []
def Q6 (Γ:Env) (f:Nat):Prop:=∀ (xs:List Qo) (g:Nat) (cap:List V) (p:Qo→Bool) (hp:∀ x∈xs,EvN Γ g (x.v :: cap) (V.bool (p x))) (hcap:Qa cap) (hl:xs.length < 2 ^ 62),EvN Γ f [.sl 12 (xs.map Qo.v),.clo g cap] (V.int (VS p 0 xs))
attribute [local go_sem] Qo.cells Qo.v in
theorem Xe {Γ:Env} {f:Nat} (h:Has Γ.P f 19 QI.1.1.ac QI.1.2) :Q6 Γ f:=by
 intro xs g cap p hp hcap hl
 refine Qb h zsi zcl zcl fun C hC hm=>?_
 subst hC
 simp only [QI,qd,DC.ac]
 have s1:∀ o,JH o cap = cap:=fun o=>Jz o cap hcap
 have s2:∀ o B,Qu o B cap = True:=fun o B=>eq_true (Jb o B cap hcap)
 refine zgo ?_;repeat' first|exact zt|apply zan|intro hc
 refine Qt (ι:=Nat) (fun k=>k≤xs.length∧VS p k (xs.drop k) = VS p 0 xs) (fun k=>[(8,V.int k)]) (fun k=>xs.length - k) 0 (by omega) ⟨by simp,by simp⟩ zol (fun i hi=>by simp only [ovT,Jn,Nat.reduceEqDiff,reduceIte];(repeat' first|exact wX|refine jZ ?_ ?_|simp only [V.lt,ltL,and_self,and_true]|omega);exact Xc _ _ hcap) (by simp only [Nat.reduceAdd,ovT,Jn,Nat.reduceEqDiff,reduceIte,Xk,W8,aiv,u32,u33,u34,u35,u36,u37,u38,u39,and_self,and_true,true_and];first|rfl|exact Q0 _ _ hcap) fun k hk K' hL=>?_
 obtain ⟨hk,hinv⟩:=hk
 simp only [ovT,Jn,Nat.reduceEqDiff,reduceIte]
 rcases hd:xs.drop k with _|⟨y,r⟩
 ·have:=Qj hd
  rw [hd] at hinv
  refine zgo ?_;repeat' first|exact zt|apply zan|intro hc
  refine Qf _ rfl ?_
  simp only [go_sem]
  rw [← hinv];rfl
 ·obtain ⟨hk,hget,hr⟩:=Qe hd
  rw [hd] at hinv
  have hw:=Qd (k:=k) (by omega)
  have hpy:=hp y (zj hget)
  by_cases hy:p y = true
  ·rw [hy] at hpy
   (have zy0:=hpy.b;have zx:=za hget (za hw (za s1 s2)));refine zgo ?_;repeat' first|exact zt|apply zan|intro hc
   refine Qf _ rfl ?_;simp only [go_sem]
   rw [← hinv];simp [VS,hy]
  ·have hy':p y = false:=by simpa using hy
   rw [hy'] at hpy
   (have zy0:=hpy.b;have zx:=za hget (za hw (za s1 s2)));refine zgo ?_;repeat' first|exact zt|apply zan|intro hc
   refine hL _ (k + 1) zet ⟨by omega,?_⟩ (by omega) zoe
   rw [hr,← hinv,VS,if_neg hy]
def WE:=qd Proofs.Tryz.f214 []
def Ub (Γ:Env) (f:Nat):Prop:=∀ (s:Qo) (n:List UInt8),EvN Γ f [s.v,.ro [V.str n] 0] (V.bool (s.name == n))
attribute [local go_sem] Qo.cells Qo.v in
theorem abc {Γ:Env} {f:Nat} (h:Has Γ.P f 8 WE.1.1.ac WE.1.2) :Ub Γ f:=by
 intro s n
 refine Qb h zsi zcl zcl fun C hC hm=>?_
 subst hC
 simp only [WE,qd,DC.ac]
 refine zgo ?_;repeat' first|exact zt|apply zan|intro hc
 refine Qf _ rfl ?_;simp only [go_sem]
def qT (n:List UInt8):Int:=VS (fun s:Qo=>s.name == n) 0 Qs + 1
def Uu:=qd Proofs.Tryz.f183 []
def KR (Γ:Env) (f:Nat):Prop:=∀ (n:List UInt8),EvN Γ f [V.str n] (V.int (qT n))
theorem ade {Γ:Env} {f:Nat} (h:Has Γ.P f 7 Uu.1.1.ac Uu.1.2) (z0:YU Γ 147) (z1:Ub Γ 214) (z2:Q6 Γ 213):KR Γ f:=by
 intro n
 refine Qb h zsi zcl zcl fun C hC hm=>?_
 subst hC
 simp only [Uu,qd,DC.ac]
 have hi:=z2 Qs 214 [.ro [V.str n] 0] (fun s=>s.name == n) (fun x _=>z1 x n) (by simp [Qa,V.closed]) (by rw [YJ];omega)
 have hr:=aeN (fun s:Qo=>s.name == n) Qs 0
 have hw:IntKind.i64.wrap (VS (fun s:Qo=>s.name == n) 0 Qs + 1) = qT n:=Jc (by omega) (by have:=YJ;omega)
 (have zy0:=hi.b;have zx:=hw);refine zgo ?_;repeat' first|exact zt|apply zan|intro hc
 refine Qf _ rfl ?_;simp only [go_sem]
theorem afY:∀ k,k < 16→∀ s,Qs[k]? = some s→s.code = ((k + 1:Nat):Int):=by decide
def qv:=qd Proofs.Tryz.f263 []
def yL (Γ:Env) (f:Nat):Prop:=∀ (n:List UInt8),EvN Γ f [V.str n] (V.int (qT n))
attribute [local go_sem] Qo.cells Qo.v in
theorem afM {Γ:Env} {f:Nat} (h:Has Γ.P f 24 qv.1.1.ac qv.1.2) (z0:XK Γ 122):yL Γ f:=by
 intro n
 refine Qb h zsi zcl zcl fun C hC hm=>?_
 subst hC
 simp only [qv,qd,DC.ac]
 have hl:=YJ
 refine zgo ?_;repeat' first|exact zt|apply zan|intro hc
 refine Qt (ι:=Nat) (fun k=>k≤16∧VS (fun s:Qo=>s.name == n) k (Qs.drop k) = VS (fun s:Qo=>s.name == n) 0 Qs) (fun k=>[(4,V.int k)]) (fun k=>16 - k) 0 (by omega) ⟨by simp,by simp⟩ zol zlt zet fun k hk K' hL=>?_
 obtain ⟨hk,hinv⟩:=hk
 simp only [ovT,Jn,Nat.reduceEqDiff,reduceIte]
 rcases hd:Qs.drop k with _|⟨y,r⟩
 ·have:=Qj hd
  rw [hd] at hinv
  have e1:decide ((k:Int) < (((Qs.map Qo.v).length:Nat):Int)) = false:=by simp [hl];omega
  (have zx:=e1);refine zgo ?_;repeat' first|exact zt|apply zan|intro hc
  all_goals (refine Qf _ rfl ?_;simp only [go_sem];rw [qT,← hinv];rfl)
 ·obtain ⟨hk',hget,hr⟩:=Qe hd
  rw [hd] at hinv
  have hw:=Qd (k:=k) (by omega)
  have e1:decide ((k:Int) < (((Qs.map Qo.v).length:Nat):Int)) = true:=by simp [hl];omega
  have hcode:=afY k (by omega) y hget
  (have zx:=za hget (za hw e1));refine zgo ?_;repeat' first|exact zt|apply zan|intro hc
  ·refine Qf _ rfl ?_;simp only [go_sem]
   rw [qT,← hinv,hcode];simp [VS, *]
  ·refine hL _ (k + 1) zet ⟨by omega,?_⟩ (by omega) zoe
   rw [hr,← hinv,VS,if_neg (by simpa using hc)]
def yi:=qd Proofs.Tryz.f59 []
def x9 (Γ:Env) (f:Nat):Prop:=∀ (l:List Int) (n:Int) (hl:l.length < 2 ^ 62),EvN Γ f [.sl 1 (l.map V.int),V.int n] (V.bool (l.contains n))
theorem ahs {Γ:Env} {f:Nat} (h:Has Γ.P f 18 yi.1.1.ac yi.1.2) :x9 Γ f:=by
 intro l n hl
 refine Qb h zsi zcl zcl fun C hC hm=>?_
 subst hC
 simp only [yi,qd,DC.ac]
 refine zgo ?_;repeat' first|exact zt|apply zan|intro hc
 refine Qt (ι:=Nat) (fun k=>k≤l.length∧(l.drop k).contains n = l.contains n) (fun k=>[(5,V.int k)]) (fun k=>l.length - k) 0 (by omega) ⟨by simp,by simp⟩ zol zlt zet fun k hk K' hL=>?_
 obtain ⟨hk,hinv⟩:=hk
 simp only [ovT,Jn,Nat.reduceEqDiff,reduceIte]
 rcases hd:l.drop k with _|⟨y,r⟩
 ·have:=Qj hd
  rw [hd] at hinv
  refine zgo ?_;repeat' first|exact zt|apply zan|intro hc
  all_goals (refine Qf _ rfl ?_;simp only [go_sem];rw [← hinv];rfl)
 ·obtain ⟨hk',hget,hr⟩:=Qe hd
  rw [hd] at hinv
  have hw:=Qd (k:=k) (by omega)
  (have zx:=za hget hw);refine zgo ?_;repeat' first|exact zt|apply zan|intro hc
  ·refine Qf _ rfl ?_;simp only [go_sem]
   rw [← hinv];simp [hc]
  ·refine hL _ (k + 1) zet ⟨by omega,?_⟩ (by omega) zoe
   rw [hr,← hinv,List.contains_cons]
   have:(n == y) = false:=by simp;exact fun h=>hc h.symm
   rw [this,kF]
def Wv:=qd Proofs.Tryz.f46 [zhn 9]
def V7 (Γ:Env) (f:Nat):Prop:=∀ (a b:List Int) (hl:a.length < 2 ^ 62),EvN Γ f [.sl 1 (a.map V.int),.sl 1 (b.map V.int)] (V.bool (a == b))
theorem aa3 {Γ:Env} {f:Nat} (h:Has Γ.P f 26 Wv.1.1.ac Wv.1.2) :V7 Γ f:=by
 intro a b hl
 refine Qb h zsi zcl zcl fun C hC hm=>?_
 subst hC
 simp only [Wv,qd,DC.ac]
 by_cases hlen:a.length = b.length
 ·have e0:((((a.map V.int).length:Nat):Int) != (((b.map V.int).length:Nat):Int)) = false:=by simp [hlen]
  (have zx:=e0);refine zgo ?_;repeat' first|exact zt|apply zan|intro hc
  refine Qt (ι:=Nat) (fun k=>k≤a.length∧(a.drop k == b.drop k) = (a == b)) (fun k=>[(5,V.int k)]) (fun k=>a.length - k) 0 (by omega) ⟨by simp,by simp⟩ zol zlt (by simp only [Nat.reduceAdd,ovT,Jn,Nat.reduceEqDiff,reduceIte,Xk,W8,aiv,u32,u33,u34,u35,u36,u37,u38,u39,and_self,and_true,true_and]<;>rfl) fun k hk K' hL=>?_
  obtain ⟨hk,hinv⟩:=hk
  simp only [ovT,Jn,Nat.reduceEqDiff,reduceIte]
  rcases hd:a.drop k with _|⟨y,r⟩
  ·have:=Qj hd
   have hd2:b.drop k = []:=kc (by omega)
   rw [hd,hd2] at hinv
   refine zgo ?_;repeat' first|exact zt|apply zan|intro hc
   all_goals (refine Qf _ rfl ?_;simp only [go_sem];rw [← hinv];rfl)
  ·obtain ⟨hk',hget,hr⟩:=Qe hd
   rcases hd2:b.drop k with _|⟨z,r2⟩
   ·have:=Qj hd2;omega
   ·obtain ⟨hk2,hget2,hr2⟩:=Qe hd2
    rw [hd,hd2] at hinv
    have hw:=Qd (k:=k) (by omega)
    by_cases hyz:y = z
    ·have e2:(y != z) = false:=by simp [hyz]
     (have zx:=za hget (za hget2 (za hw e2)));refine zgo ?_;repeat' first|exact zt|apply zan|intro hc
     refine hL _ (k + 1) zet ⟨by omega,?_⟩ (by omega) zoe
     rw [hr,hr2,← hinv];simp [hyz]
    ·have e2:(y != z) = true:=by simp [hyz]
     (have zx:=za hget (za hget2 (za hw e2)));refine zgo ?_;repeat' first|exact zt|apply zan|intro hc
     all_goals (refine Qf _ rfl ?_;simp only [go_sem];rw [← hinv];simp [hyz])
 ·have e0:((((a.map V.int).length:Nat):Int) != (((b.map V.int).length:Nat):Int)) = true:=by simp;omega
  have e1:(a == b) = false:=by
   simp only [kN,ne_eq]
   intro h;exact hlen (by rw [h])
  (have zx:=e0);refine zgo ?_;repeat' first|exact zt|apply zan|intro hc
  all_goals (refine Qf _ rfl ?_;simp only [go_sem];rw [e1])
def xl (c:Int):Int:=if 1≤c∧c≤16 then QL (XD c).ci1 (XD c).ci2 else 0
def YG:=qd Proofs.Tryz.f256 []
def XJ (Γ:Env) (f:Nat):Prop:=∀ (c:Int),EvN Γ f [V.int c] (V.int (xl c))
attribute [local go_sem] Qo.cells Qo.v in
theorem xC {Γ:Env} {f:Nat} (h:Has Γ.P f 15 YG.1.1.ac YG.1.2) (z0:WJ Γ 116) (z1:Yg Γ 164):XJ Γ f:=by
 intro c
 refine Qb h zsi zcl zcl fun C hC hm=>?_
 subst hC
 simp only [YG,qd,DC.ac]
 by_cases h:1≤c∧c≤16
 ·have e:Xj c = .tup [(XD c).v,V.int 0]:=by rw [Xj,if_pos h]
  have hs:xl c = QL (XD c).ci1 (XD c).ci2:=by rw [xl,if_pos h]
  rw [hs]
  (have zx:=e);refine zgo ?_;repeat' first|exact zt|apply zan|intro hc
  all_goals (refine Qf _ rfl ?_;simp only [go_sem])
 ·have e:Xj c = .tup [(XD c).v,V.int 8]:=by rw [Xj,if_neg h]
  have hs:xl c = 0:=by rw [xl,if_neg h]
  rw [hs]
  (have zx:=e);refine zgo ?_;repeat' first|exact zt|apply zan|intro hc
  all_goals (refine Qf _ rfl ?_;simp only [go_sem])
def Wt:=qd Proofs.Tryz.f170 []
def Wc (Γ:Env) (f:Nat):Prop:=∀ (c:Int),EvN Γ f [V.int c] (V.int (xl c))
attribute [local go_sem] Qo.cells Qo.v in
theorem aa1 {Γ:Env} {f:Nat} (h:Has Γ.P f 15 Wt.1.1.ac Wt.1.2) (z0:js Γ 58) (z1:Wd Γ 204):Wc Γ f:=by
 intro c
 refine Qb h zsi zcl zcl fun C hC hm=>?_
 subst hC
 simp only [Wt,qd,DC.ac]
 by_cases h:1≤c∧c≤16
 ·have e:Xj c = .tup [(XD c).v,V.int 0]:=by rw [Xj,if_pos h]
  have hs:xl c = QL (XD c).ci1 (XD c).ci2:=by rw [xl,if_pos h]
  rw [hs]
  (have zx:=e);refine zgo ?_;repeat' first|exact zt|apply zan|intro hc
  all_goals (refine Qf _ rfl ?_;simp only [go_sem])
 ·have e:Xj c = .tup [(XD c).v,V.int 8]:=by rw [Xj,if_neg h]
  have hs:xl c = 0:=by rw [xl,if_neg h]
  rw [hs]
  (have zx:=e);refine zgo ?_;repeat' first|exact zt|apply zan|intro hc
  all_goals (refine Qf _ rfl ?_;simp only [go_sem])
def Wh:List (List UInt8):=[[97,108,108],[104,105,103,104],[109,101,100,105,117,109],[108,111,119],[118,49],[118,50],[118,51],[118,52]]
def XF (n:List UInt8):Bool:=Wh.contains n || decide (J2 n 0 Q1 > 0) || decide (qT n > 0)
def Kb:=qd Proofs.Tryz.f233 []
def jm (Γ:Env) (f:Nat):Prop:=∀ (n:List UInt8),EvN Γ f [V.str n] (V.bool (XF n))
theorem adY {Γ:Env} {f:Nat} (h:Has Γ.P f 21 Kb.1.1.ac Kb.1.2) (z0:VF Γ 197) (z1:yL Γ 263):jm Γ f:=by
 intro n
 refine Qb h zsi zcl zcl fun C hC hm=>?_
 subst hC
 simp only [Kb,qd,DC.ac]
 by_cases hg:n∈Wh
 ·have e:XF n = true:=by simp [XF,hg]
  rw [e]
  simp only [Wh,zp,zy,or_false] at hg
  rcases hg with rfl|rfl|rfl|rfl|rfl|rfl|rfl|rfl
  all_goals
   refine zgo ?_;repeat' first|exact zt|apply zan|intro hc
   all_goals (refine Qf _ rfl ?_;simp only [go_sem])
 ·have e0:Wh.contains n = false:=by simpa using hg
  have e:XF n = (decide (J2 n 0 Q1 > 0) || decide (qT n > 0)):=by simp only [XF,e0,kF]
  rw [e]
  simp only [Wh,zp,zy,or_false,not_or] at hg
  obtain ⟨h1,h2,h3,h4,h5,h6,h7,h8⟩:=hg
  have g1:=beq_eq_false_iff_ne.2 h1
  have g2:=beq_eq_false_iff_ne.2 h2
  have g3:=beq_eq_false_iff_ne.2 h3
  have g4:=beq_eq_false_iff_ne.2 h4
  have g5:=beq_eq_false_iff_ne.2 h5
  have g6:=beq_eq_false_iff_ne.2 h6
  have g7:=beq_eq_false_iff_ne.2 h7
  have g8:=beq_eq_false_iff_ne.2 h8
  rcases hf:decide (J2 n 0 Q1 > 0) with _|_
  all_goals
   (have zx:=za hf (za g1 (za g2 (za g3 (za g4 (za g5 (za g6 (za g7 g8))))))));refine zgo ?_;repeat' first|exact zt|apply zan|intro hc
   all_goals first|exact zr|(refine Qf _ rfl ?_;simp only [go_sem];simp;done)
def UX (n:List UInt8) (st lo up:Int):Option Bool :=
 if n = [97,108,108] then some true else if n = [104,105,103,104] then some (decide (st≥128)) else if n = [109,101,100,105,117,109] then some (decide (st≥112) && decide (st < 128))
 else if n = [108,111,119] then some (decide (st < 112)) else if n = [118,49] then some (decide (lo≤1) && decide (1≤up)) else if n = [118,50] then some (decide (lo≤2) && decide (2≤up))
 else if n = [118,51] then some (decide (lo≤3) && decide (3≤up)) else if n = [118,52] then some (decide (lo≤4) && decide (4≤up)) else none
def aid:Option Bool→V
 | some b=>.tup [V.bool b,V.bool true]
 | none=>.tup [V.bool false,V.bool false]
theorem acP (x:Option Bool):(aid x).closed:=by cases x<;>simp only [aid,V.closed,Qa,and_self]
theorem agV (x:Option Bool):(aid x).noSl:=by cases x<;>simp only [aid,V.noSl,UJ,and_self]
theorem aaX {n:List UInt8} (st lo up:Int) (h:n ∉ Wh):UX n st lo up = none:=by
 simp only [Wh,zp,zy,or_false,not_or] at h
 obtain ⟨h1,h2,h3,h4,h5,h6,h7,h8⟩:=h
 rw [UX,if_neg h1,if_neg h2,if_neg h3,if_neg h4,if_neg h5,if_neg h6,if_neg h7,if_neg h8]
def XU:=qd Proofs.Tryz.f182 []
def Vx (Γ:Env) (f:Nat):Prop:=∀ (s:Qo) (n:List UInt8),EvN Γ f [s.v,V.str n] (aid (UX n (QL s.ci1 s.ci2) s.lo s.hi))
attribute [local go_sem] Qo.cells Qo.v in
theorem v6 {Γ:Env} {f:Nat} (h:Has Γ.P f 49 XU.1.1.ac XU.1.2) (z0:Yg Γ 164):Vx Γ f:=by
 intro s n
 refine Qb h zsi (by first|exact acP _|exact agV _) (by first|exact acP _|exact agV _) fun C hC hm=>?_
 subst hC
 simp only [XU,qd,DC.ac]
 generalize hst:QL s.ci1 s.ci2 = st
 by_cases hg:n∈Wh
 ·simp only [Wh,zp,zy,or_false] at hg
  rcases hg with rfl|rfl|rfl|rfl|rfl|rfl|rfl|rfl
  ·(have zx:=hst);refine zgo ?_;repeat' first|exact zt|apply zan|intro hc
   all_goals (simp only [UX,aid,if_true];refine Qf _ rfl ?_;simp only [go_sem])
  ·(have zx:=hst);refine zgo ?_;repeat' first|exact zt|apply zan|intro hc
   all_goals (have e:UX [104,105,103,104] st s.lo s.hi = some (decide (st≥128)):=rfl;rw [e];simp only [aid];refine Qf _ rfl ?_;simp only [go_sem])
  ·have e:UX [109,101,100,105,117,109] st s.lo s.hi = some (decide (st≥112) && decide (st < 128)):=rfl
   rw [e]
   rcases h1:decide (st≥112) with _|_<;>rcases h2:decide (st < 128) with _|_
   all_goals
    (have zx:=za hst (za h1 h2));refine zgo ?_;repeat' first|exact zt|apply zan|intro hc
    all_goals (simp only [aid,kh,zT,zI,zD,zC];refine Qf _ rfl ?_;simp only [go_sem])
  ·(have zx:=hst);refine zgo ?_;repeat' first|exact zt|apply zan|intro hc
   all_goals (have e:UX [108,111,119] st s.lo s.hi = some (decide (st < 112)):=rfl;rw [e];simp only [aid];refine Qf _ rfl ?_;simp only [go_sem])
  ·have e:UX [118,49] st s.lo s.hi = some (decide (s.lo≤1) && decide (1≤s.hi)):=rfl
   have ew:IntKind.i64.wrap (IntKind.u8.wrap (((UInt8.toNat 49:Nat):Int) - 48)) = 1:=rfl
   rw [e]
   rcases h1:decide (s.lo≤1) with _|_<;>rcases h2:decide (1≤s.hi) with _|_
   all_goals
    (have zx:=za hst (za ew (za h1 h2)));refine zgo ?_;repeat' first|exact zt|apply zan|intro hc
    all_goals (simp only [aid,kh,zT,zI,zD,zC];refine Qf _ rfl ?_;simp only [go_sem])
  ·have e:UX [118,50] st s.lo s.hi = some (decide (s.lo≤2) && decide (2≤s.hi)):=rfl
   have ew:IntKind.i64.wrap (IntKind.u8.wrap (((UInt8.toNat 50:Nat):Int) - 48)) = 2:=rfl
   rw [e]
   rcases h1:decide (s.lo≤2) with _|_<;>rcases h2:decide (2≤s.hi) with _|_
   all_goals
    (have zx:=za hst (za ew (za h1 h2)));refine zgo ?_;repeat' first|exact zt|apply zan|intro hc
    all_goals (simp only [aid,kh,zT,zI,zD,zC];refine Qf _ rfl ?_;simp only [go_sem])
  ·have e:UX [118,51] st s.lo s.hi = some (decide (s.lo≤3) && decide (3≤s.hi)):=rfl
   have ew:IntKind.i64.wrap (IntKind.u8.wrap (((UInt8.toNat 51:Nat):Int) - 48)) = 3:=rfl
   rw [e]
   rcases h1:decide (s.lo≤3) with _|_<;>rcases h2:decide (3≤s.hi) with _|_
   all_goals
    (have zx:=za hst (za ew (za h1 h2)));refine zgo ?_;repeat' first|exact zt|apply zan|intro hc
    all_goals (simp only [aid,kh,zT,zI,zD,zC];refine Qf _ rfl ?_;simp only [go_sem])
  ·have e:UX [118,52] st s.lo s.hi = some (decide (s.lo≤4) && decide (4≤s.hi)):=rfl
   have ew:IntKind.i64.wrap (IntKind.u8.wrap (((UInt8.toNat 52:Nat):Int) - 48)) = 4:=rfl
   rw [e]
   rcases h1:decide (s.lo≤4) with _|_<;>rcases h2:decide (4≤s.hi) with _|_
   all_goals
    (have zx:=za hst (za ew (za h1 h2)));refine zgo ?_;repeat' first|exact zt|apply zan|intro hc
    all_goals (simp only [aid,kh,zT,zI,zD,zC];refine Qf _ rfl ?_;simp only [go_sem])
 ·rw [aaX st s.lo s.hi hg]
  simp only [Wh,zp,zy,or_false,not_or] at hg
  obtain ⟨h1,h2,h3,h4,h5,h6,h7,h8⟩:=hg
  have g1:=beq_eq_false_iff_ne.2 h1
  have g2:=beq_eq_false_iff_ne.2 h2
  have g3:=beq_eq_false_iff_ne.2 h3
  have g4:=beq_eq_false_iff_ne.2 h4
  have g5:=beq_eq_false_iff_ne.2 h5
  have g6:=beq_eq_false_iff_ne.2 h6
  have g7:=beq_eq_false_iff_ne.2 h7
  have g8:=beq_eq_false_iff_ne.2 h8
  (have zx:=za hst (za g1 (za g2 (za g3 (za g4 (za g5 (za g6 (za g7 g8))))))));refine zgo ?_;repeat' first|exact zt|apply zan|intro hc
  all_goals (simp only [aid];refine Qf _ rfl ?_;simp only [go_sem])
def wN (n:List UInt8) (s:Qo):Bool×Bool :=
 match UX n (QL s.ci1 s.ci2) s.lo s.hi with
 | some b=>(b,true)
 | none=>((decide (J2 n 0 Q1 > 0) && decide (XO (J2 n 0 Q1) 0 [s.kx1,s.sg1,s.ci1,s.mc1]≥0)) || (decide (qT n > 0) && s.code == qT n),decide (J2 n 0 Q1 > 0) || decide (qT n > 0))
def YC (n:List UInt8) (s:Qo):Bool :=
 match UX n (xl s.code) s.lo s.hi with
 | some b=>b
 | none=>(decide (J2 n 0 Q1 > 0) && (s.kx1 == J2 n 0 Q1 || s.sg1 == J2 n 0 Q1 || s.ci1 == J2 n 0 Q1 || s.mc1 == J2 n 0 Q1)) || s.name == n
def aku (p:Bool×Bool):V:=.tup [V.bool p.1,V.bool p.2]
def XT:=qd Proofs.Tryz.f149 []
def Vw (Γ:Env) (f:Nat):Prop:=∀ (s:Qo) (n:List UInt8),EvN Γ f [s.v,V.str n] (aku (wN n s))
attribute [local go_sem] Qo.cells Qo.v in
theorem vZ {Γ:Env} {f:Nat} (h:Has Γ.P f 59 XT.1.1.ac XT.1.2) (z0:Vx Γ 182) (z1:VO Γ 154) (z2:KR Γ 183) (z3:Qw Γ 117):Vw Γ f:=by
 intro s n
 refine Qb h zsi (by simp only [aku,V.closed,Qa,V.noSl,UJ,and_self]) (by simp only [aku,V.closed,Qa,V.noSl,UJ,and_self]) fun C hC hm=>?_
 subst hC
 simp only [XT,qd,DC.ac]
 have hg:=(z0 s n).b
 rcases hn:UX n (QL s.ci1 s.ci2) s.lo s.hi with _|b
 ·have e:wN n s = ((decide (J2 n 0 Q1 > 0) && decide (XO (J2 n 0 Q1) 0 [s.kx1,s.sg1,s.ci1,s.mc1]≥0)) || (decide (qT n > 0) && s.code == qT n),decide (J2 n 0 Q1 > 0) || decide (qT n > 0)):=by rw [wN,hn]
  rw [e]
  rw [hn] at hg
  simp only [aid,Qo.v,Qo.cells] at hg
  have hf:=(z3 [s.kx1,s.sg1,s.ci1,s.mc1] (J2 n 0 Q1) (by simp)).b
  simp only [zm,zl] at hf
  rcases h1:decide (J2 n 0 Q1 > 0) with _|_<;>rcases h2:decide (qT n > 0) with _|_<;>rcases h3:decide (XO (J2 n 0 Q1) 0 [s.kx1,s.sg1,s.ci1,s.mc1]≥0) with _|_
  all_goals
   rw [h3] at hf
   (have zx:=za h1 h2);refine zgo ?_;repeat' first|exact zt|apply zan|intro hc
   all_goals (simp only [aku,kh,zT,zI,zD,zC,Zu,kR,Zr,kF,k9];refine Qf _ rfl ?_;simp only [go_sem];done)
 ·have e:wN n s = (b,true):=by rw [wN,hn]
  rw [e]
  rw [hn] at hg
  simp only [aid,Qo.v,Qo.cells] at hg
  refine zgo ?_;repeat' first|exact zt|apply zan|intro hc
  all_goals (simp only [aku];refine Qf _ rfl ?_;simp only [go_sem];done)
def Ka:=qd Proofs.Tryz.f234 []
def jk (Γ:Env) (f:Nat):Prop:=∀ (n:List UInt8) (s:Qo),EvN Γ f [V.str n,s.v] (V.bool (YC n s))
attribute [local go_sem] Qo.cells Qo.v in
theorem adX {Γ:Env} {f:Nat} (h:Has Γ.P f 85 Ka.1.1.ac Ka.1.2) (z0:Wc Γ 170) (z1:VF Γ 197):jk Γ f:=by
 intro n s
 refine Qb h zsi zcl zcl fun C hC hm=>?_
 subst hC
 simp only [Ka,qd,DC.ac]
 generalize hst:xl s.code = st
 by_cases hg:n∈Wh
 ·simp only [Wh,zp,zy,or_false] at hg
  rcases hg with rfl|rfl|rfl|rfl|rfl|rfl|rfl|rfl
  ·have e:YC [97,108,108] s = true:=rfl
   rw [e]
   (have zx:=hst);refine zgo ?_;repeat' first|exact zt|apply zan|intro hc
   all_goals (refine Qf _ rfl ?_;simp only [go_sem])
  ·have e:YC [104,105,103,104] s = decide (xl s.code≥128):=rfl
   rw [e,hst]
   (have zx:=hst);refine zgo ?_;repeat' first|exact zt|apply zan|intro hc
   all_goals (refine Qf _ rfl ?_;simp only [go_sem])
  ·have e:YC [109,101,100,105,117,109] s = (decide (xl s.code≥112) && decide (xl s.code < 128)):=rfl
   rw [e,hst]
   rcases h1:decide (st≥112) with _|_<;>rcases h2:decide (st < 128) with _|_
   all_goals
    (have zx:=za hst (za h1 h2));refine zgo ?_;repeat' first|exact zt|apply zan|intro hc
    all_goals ((try simp only [kh,zT,zI,zD,zC]);refine Qf _ rfl ?_;simp only [go_sem])
  ·have e:YC [108,111,119] s = decide (xl s.code < 112):=rfl
   rw [e,hst]
   (have zx:=hst);refine zgo ?_;repeat' first|exact zt|apply zan|intro hc
   all_goals (refine Qf _ rfl ?_;simp only [go_sem])
  ·have e:YC [118,49] s = (decide (s.lo≤1) && decide (1≤s.hi)):=rfl
   have ew:IntKind.i64.wrap (IntKind.u8.wrap (((UInt8.toNat 49:Nat):Int) - 48)) = 1:=rfl
   rw [e]
   rcases h1:decide (s.lo≤1) with _|_<;>rcases h2:decide (1≤s.hi) with _|_
   all_goals
    (have zx:=za hst (za ew (za h1 h2)));refine zgo ?_;repeat' first|exact zt|apply zan|intro hc
    all_goals ((try simp only [kh,zT,zI,zD,zC]);refine Qf _ rfl ?_;simp only [go_sem])
  ·have e:YC [118,50] s = (decide (s.lo≤2) && decide (2≤s.hi)):=rfl
   have ew:IntKind.i64.wrap (IntKind.u8.wrap (((UInt8.toNat 50:Nat):Int) - 48)) = 2:=rfl
   rw [e]
   rcases h1:decide (s.lo≤2) with _|_<;>rcases h2:decide (2≤s.hi) with _|_
   all_goals
    (have zx:=za hst (za ew (za h1 h2)));refine zgo ?_;repeat' first|exact zt|apply zan|intro hc
    all_goals ((try simp only [kh,zT,zI,zD,zC]);refine Qf _ rfl ?_;simp only [go_sem])
  ·have e:YC [118,51] s = (decide (s.lo≤3) && decide (3≤s.hi)):=rfl
   have ew:IntKind.i64.wrap (IntKind.u8.wrap (((UInt8.toNat 51:Nat):Int) - 48)) = 3:=rfl
   rw [e]
   rcases h1:decide (s.lo≤3) with _|_<;>rcases h2:decide (3≤s.hi) with _|_
   all_goals
    (have zx:=za hst (za ew (za h1 h2)));refine zgo ?_;repeat' first|exact zt|apply zan|intro hc
    all_goals ((try simp only [kh,zT,zI,zD,zC]);refine Qf _ rfl ?_;simp only [go_sem])
  ·have e:YC [118,52] s = (decide (s.lo≤4) && decide (4≤s.hi)):=rfl
   have ew:IntKind.i64.wrap (IntKind.u8.wrap (((UInt8.toNat 52:Nat):Int) - 48)) = 4:=rfl
   rw [e]
   rcases h1:decide (s.lo≤4) with _|_<;>rcases h2:decide (4≤s.hi) with _|_
   all_goals
    (have zx:=za hst (za ew (za h1 h2)));refine zgo ?_;repeat' first|exact zt|apply zan|intro hc
    all_goals ((try simp only [kh,zT,zI,zD,zC]);refine Qf _ rfl ?_;simp only [go_sem])
 ·have e:YC n s = ((decide (J2 n 0 Q1 > 0) && (s.kx1 == J2 n 0 Q1 || s.sg1 == J2 n 0 Q1 || s.ci1 == J2 n 0 Q1 || s.mc1 == J2 n 0 Q1)) || s.name == n):=by rw [YC,aaX _ _ _ hg]
  rw [e]
  simp only [Wh,zp,zy,or_false,not_or] at hg
  obtain ⟨h1,h2,h3,h4,h5,h6,h7,h8⟩:=hg
  have g1:=beq_eq_false_iff_ne.2 h1
  have g2:=beq_eq_false_iff_ne.2 h2
  have g3:=beq_eq_false_iff_ne.2 h3
  have g4:=beq_eq_false_iff_ne.2 h4
  have g5:=beq_eq_false_iff_ne.2 h5
  have g6:=beq_eq_false_iff_ne.2 h6
  have g7:=beq_eq_false_iff_ne.2 h7
  have g8:=beq_eq_false_iff_ne.2 h8
  generalize hf:J2 n 0 Q1 = a
  rcases k0:decide (a > 0) with _|_
  ·(have zx:=za hst (za hf (za k0 (za g1 (za g2 (za g3 (za g4 (za g5 (za g6 (za g7 g8))))))))));refine zgo ?_;repeat' first|exact zt|apply zan|intro hc
   all_goals ((try simp only [zD,kF]);refine Qf _ rfl ?_;simp only [go_sem])
  ·rcases k1:s.kx1 == a with _|_<;>rcases k2:s.sg1 == a with _|_<;>rcases k3:s.ci1 == a with _|_<;>rcases k4:s.mc1 == a with _|_
   all_goals
    (have zx:=za hst (za hf (za k0 (za k1 (za k2 (za k3 (za k4 (za g1 (za g2 (za g3 (za g4 (za g5 (za g6 (za g7 g8))))))))))))));refine zgo ?_;repeat' first|exact zt|apply zan|intro hc
    all_goals ((try simp only [kh,zT,zI,zD,zC,Zu,kR,Zr,kF,k9]);refine Qf _ rfl ?_;simp only [go_sem];done)
theorem ajK {α:Type} (p:α→Bool):∀ (l:List α) (k:Nat),0≤VS p k l→∃ j x,l[j]? = some x∧p x = true∧VS p k l = ((k + j:Nat):Int)
 | [],k,h=>by simp [VS] at h
 | x :: r,k,h=>by
   by_cases hx:p x = true
   ·exact ⟨0,x,rfl,hx,by simp [VS,hx]⟩
   ·have e:VS p k (x :: r) = VS p (k + 1) r:=by simp [VS,hx]
    rw [e] at h ⊢
    obtain ⟨j,y,h1,h2,h3⟩:=ajK p r (k + 1) h
    exact ⟨j + 1,y,by simpa using h1,h2,by rw [h3];congr 1;omega⟩
theorem Kz (x:Int):∀ (l:List Int) (k:Nat),0≤XO x k l↔x∈l
 | [],k=>by simp [XO]
 | y :: r,k=>by
   by_cases hy:y = x
   ·subst hy;simp [XO]
   ·have:=Kz x r (k + 1)
    have e:XO x k (y :: r) = XO x (k + 1) r:=by rw [XO,if_neg (fun h=>hy h.symm)]
    rw [e,this,zp]
    exact ⟨Or.inr,fun h=>h.elim (fun h=>absurd h.symm hy) id⟩
theorem amX:∀ s∈Qs,qT s.name = s.code:=by decide
theorem aio:∀ s∈Qs,xl s.code = QL s.ci1 s.ci2:=by decide
theorem ak4 {s:Qo} (hs:s∈Qs) (n:List UInt8):(decide (qT n > 0) && s.code == qT n) = (s.name == n):=by
 by_cases h:s.name = n
 ·subst h
  have h1:=amX s hs
  obtain ⟨k,hk,hg⟩:=kz hs
  have h2:=afY k hk s (by rw [zf hk,hg])
  have h3:qT s.name > 0:=by rw [h1,h2];omega
  simp [h3,h1];omega
 ·have e:(s.name == n) = false:=by simpa using h
  rw [e,Zq]
  by_cases h0:qT n > 0
  ·right
   simp only [kN,ne_eq]
   intro hc
   obtain ⟨j,x,h1,h2,h3⟩:=ajK (fun s:Qo=>s.name == n) Qs 0 (by unfold qT at h0;omega)
   obtain ⟨k,hk,hg⟩:=kz hs
   have h4:=afY k hk s (by rw [zf hk,hg])
   have hkj:k = j:=by unfold qT at hc;omega
   subst hkj
   rw [zf hk,hg] at h1
   cases h1
   exact h (by simpa using h2)
  ·left;simpa using h0
theorem akN {n:List UInt8} (st lo hi:Int) (h:n∈Wh):∃ b,UX n st lo hi = some b:=by
 simp only [Wh,zp,zy,or_false] at h
 rcases h with rfl|rfl|rfl|rfl|rfl|rfl|rfl|rfl<;>exact ⟨_,rfl⟩
theorem aiH {n:List UInt8} {s:Qo}:(wN n s).2 = XF n:=by
 by_cases h:n∈Wh
 ·obtain ⟨b,hb⟩:=akN (QL s.ci1 s.ci2) s.lo s.hi h
  rw [wN,hb,XF];simp [h]
 ·rw [wN,aaX _ _ _ h,XF];simp [h]
theorem akI {s:Qo} (hs:s∈Qs) (n:List UInt8):YC n s = (wN n s).1:=by
 have h1:=aio s hs
 have h2:=ak4 hs n
 have h3:decide (XO (J2 n 0 Q1) 0 [s.kx1,s.sg1,s.ci1,s.mc1]≥0) = (s.kx1 == J2 n 0 Q1 || s.sg1 == J2 n 0 Q1 || s.ci1 == J2 n 0 Q1 || s.mc1 == J2 n 0 Q1):=by
  rw [Zt]
  simp only [zS,ge_iff_le,Kz,zp,zy,or_false,kA,kC]
  constructor
  ·rintro (h|h|h|h)<;>simp [h]
  ·rintro (((h|h)|h)|h)<;>simp [h]
 rw [YC,wN,h1]
 cases UX n (QL s.ci1 s.ci2) s.lo s.hi with
 | some b=>rfl
 | none=>simp only [h2,h3]
def Ya (c:UInt8):List UInt8→List UInt8→List (List UInt8)
 | cur,[]=>[cur]
 | cur,x :: r=>if x = c then cur :: Ya c [] r else Ya c (cur++[x]) r
def QU (c:UInt8) (s:List UInt8):List (List UInt8):=Ya c [] s
theorem agE (c:UInt8):∀ (r cur:List UInt8),Ya c cur r≠[]
 | [],cur=>by simp [Ya]
 | x :: r,cur=>by
   rw [Ya];split
   ·simp
   ·exact agE c r _
def U9:=qd Proofs.Tryz.f155 []
def Uv (Γ:Env) (f:Nat):Prop:=∀ (s:List UInt8) (c:UInt8) (hs:s.length < 2 ^ 34),EvC Γ f [V.str s,.sc (.int .u8 c.toNat)] (.sl 1 ((QU c s).map V.str))
attribute [local go_sem] Yo in
theorem adW {Γ:Env} {f:Nat} (h:Has Γ.P f 35 U9.1.1.ac U9.1.2) :Uv Γ f:=by
 intro s c hs
 refine Qn h zsi (by simp only [V.closed]) fun C hC hm=>?_
 subst hC
 simp only [U9,qd,DC.ac]
 refine zgo ?_;repeat' first|exact zt|apply zan|intro hc
 refine Qz (ι:=Nat×Nat×List (List UInt8)) (fun p=>p.1≤s.length + 1∧p.2.1≤p.1∧p.2.2.length≤p.1∧(p.1≤s.length→p.2.2++Ya c ((s.take p.1).drop p.2.1) (s.drop p.1) = QU c s)∧(p.1 = s.length + 1→p.2.2 = QU c s))
  (fun p=>Yo [(0,V.str s),(1,.sc (.int .u8 c.toNat)),(5,.hd 0 0 p.2.2.length),(6,V.int p.2.1),(7,V.int p.1)] [(0,.buf true 1 (p.2.2.map V.str))] 1) (fun p=>s.length + 2 - p.1) (0,0,[]) ⟨by simp,by simp,by simp,fun _=>by simp [QU],fun h=>by simp at h⟩ (Qp [(0,1000)]) (zwg [(0,1000)]) fun p hp K' hL=>?_
 obtain ⟨k,fr,out⟩:=p
 obtain ⟨h1,h2,h3,h4,h5⟩:=hp
 simp only at h1 h2 h3 h4 h5
 by_cases hk:k≤s.length
 ·have e1:decide ((k:Int)≤s.length) = true:=by simp;omega
  have hw:IntKind.i64.wrap ((k:Int) + 1) = ((k + 1:Nat):Int):=by rw [Jc (by omega) (by omega)];rfl
  have hcur:List.take (k - fr) (List.drop fr s) = (s.take k).drop fr:=by rw [List.drop_take]
  have hb:List.take out.length (List.map V.str out)++[V.sc (Value.string ⟨((s.take k).drop fr).toArray⟩)] = (out++[(s.take k).drop fr]).map V.str:=by
   rw [zb (by simp),zG];rfl
  have hlen:out.length + 1 = (out++[(s.take k).drop fr]).length:=by simp
  by_cases hkl:k = s.length
  ·have e2:((k:Int) == s.length) = true:=by simp;omega
   have hfin:out++[(s.take k).drop fr] = QU c s:=by
    have hdr:s.drop k = []:=kc (by omega)
    rw [← h4 hk,hdr,Ya]
   (have zx:=za e1 (za e2 hw));refine zgo ?_;repeat' first|exact zt|apply zan|intro hc
   all_goals
    rw [hcur,hb,hlen]
    exact hL _ (k + 1,k + 1,out++[(s.take k).drop fr]) (Qp [(0,21001)]) ⟨by simp only;omega,by simp,by simp;omega,fun h=>by simp only at h;omega,fun _=>hfin⟩ (by simp only;omega) (zwg [(0,21001)])
  ·have e2:((k:Int) == s.length) = false:=by simp;omega
   obtain ⟨x,hx⟩:∃ x,s[k]? = some x:=⟨s[k]'(by omega),zf (by omega)⟩
   have hd:s.drop k = x :: s.drop (k + 1):=by
    rw [zQ (by omega)];congr 1
    rw [zf (by omega)] at hx;exact kU hx
   have ht:(s.take (k + 1)).drop fr = (s.take k).drop fr++[x]:=by
    rw [zB,hx,kE (by simp;omega)];rfl
   have h4':=h4 hk
   rw [hd,Ya] at h4'
   by_cases hxc:x = c
   ·have e3:((x.toNat:Int) == (c.toNat:Int)) = true:=by simp [hxc]
    rw [if_pos hxc] at h4'
    have hz:(s.take (k + 1)).drop (k + 1) = []:=kc (by simp;omega)
    (have zx:=za e1 (za e2 (za hw (za hx e3))));refine zgo ?_;repeat' first|exact zt|apply zan|intro hc
    all_goals
     rw [hcur,hb,hlen]
     exact hL _ (k + 1,k + 1,out++[(s.take k).drop fr]) (Qp [(0,21001)]) ⟨by simp only;omega,by simp,by simp;omega,fun h=>by simp only;rw [hz,zW];exact h4',fun h=>by simp only at h;omega⟩ (by simp only;omega) (zwg [(0,21001)])
   ·have e3:((x.toNat:Int) == (c.toNat:Int)) = false:=by
     simp only [kN,ne_eq];intro h;exact hxc (UInt8.toNat_inj.1 (by omega))
    rw [if_neg hxc] at h4'
    (have zx:=za e1 (za e2 (za hw (za hx e3))));refine zgo ?_;repeat' first|exact zt|apply zan|intro hc
    all_goals
     exact hL _ (k + 1,fr,out) (Qp []) ⟨by simp only;omega,by simp only;omega,by simp only;omega,fun h=>by simp only;rw [ht];exact h4',fun h=>by simp only at h;omega⟩ (by simp only;omega) (zwg [])
 ·have e1:decide ((k:Int)≤s.length) = false:=by simp;omega
  have hout:=h5 (by omega)
  subst hout
  (have zx:=e1);refine zgo ?_;repeat' first|exact zt|apply zan|intro hc
  all_goals (refine Qf _ rfl ?_;simp only [go_sem];rw [zb (by simp)])
end Av
end
