/- K16 -/
import Derived.Test.YtphclkkggijicaaGreatDoorK15
import Derived.Lib.IndexLaws
import Derived.Lib.AtoiAllCases
import Derived.Test.YtphclkkggijicaaGreatDoorK12
import Derived.Test.YtphclkkggijicaaGreatDoorK14
set_option linter.unusedVariables false
set_option linter.unusedSimpArgs false
noncomputable section
set_option maxRecDepth 10000
set_option maxHeartbeats 4000000
namespace Av
open Go
attribute [local irreducible] AWp Vo Ky jA awS awC aad awQ aaN QL Vq vQ awR Vz awB okR js ris
theorem Uc {k:Nat} (h:k < 10):(UInt8.ofNat (48 + k)).toNat = 48 + k:=by
 rw [UInt8.toNat_ofNat'];omega
theorem aeV (d:UInt8):∀ (l:List UInt8) (acc:Int),aab acc (l++[d]) = (aab acc l).bind fun n=>if d.toNat < 48∨57 < d.toNat then none else some (n * 10 + ((d.toNat:Int) - 48))
 | [],acc=>by simp [aab]
 | c :: l,acc=>by
   simp only [List.cons_append,aab]
   split
   ·rfl
   ·exact aeV d l _
theorem aiY:∀ (k u:Nat),u < k→aab 0 (Lib.decDigits u) = some (u:Int)
 | 0,u,h=>by omega
 | k + 1,u,h=>by
   rw [Lib.decDigits]
   split
   ·rename_i hu
    simp only [aab,Uc hu]
    rw [if_neg (by omega)]
    congr 1;omega
   ·rename_i hu
    rw [aeV,aiY k (u / 10) (by omega),Option.bind_some,Uc (by omega),if_neg (by omega)]
    congr 1;omega
theorem aos (d:UInt8):∀ (l:List UInt8) (acc n:Nat),Lib.parseUint10 acc l = .ok n→48≤d.toNat∧d.toNat≤57→n < 1844674407370955161→Lib.parseUint10 acc (l++[d]) = .ok (n * 10 + (d.toNat - 48))
 | [],acc,n,h,hd,hn=>by
   simp only [Lib.parseUint10,Lib.NumEnd.ok.injEq] at h
   subst h
   simp only [List.nil_append,Lib.parseUint10]
   rw [if_pos hd,if_neg (by omega),if_neg (by omega)]
 | c :: l,acc,n,h,hd,hn=>by
   simp only [Lib.parseUint10] at h
   simp only [List.cons_append,Lib.parseUint10]
   split at h
   ·rename_i h1
    rw [if_pos h1]
    split at h
    ·cases h
    ·rename_i h2
     rw [if_neg h2]
     split at h
     ·cases h
     ·rename_i h3
      rw [if_neg h3]
      exact aos d l _ n h hd hn
   ·cases h
theorem aor:∀ (k u:Nat),u < k→u < 1000000000000000000→Lib.parseUint10 0 (Lib.decDigits u) = .ok u
 | 0,u,h,_=>by omega
 | k + 1,u,h,hb=>by
   rw [Lib.decDigits]
   split
   ·rename_i hu
    have e:=Uc hu
    simp only [Lib.parseUint10,e]
    rw [if_pos (by omega),if_neg (by omega),if_neg (by omega)]
    congr 1;omega
   ·rename_i hu
    have e:=Uc (k:=u % 10) (by omega)
    rw [aos _ _ _ (u / 10) (aor k (u / 10) (by omega) (by omega)) (by omega) (by omega),e]
    congr 1;omega
theorem afw:∀ (k u:Nat),u < k→∃ c r,Lib.decDigits u = c :: r∧48≤c.toNat∧c.toNat≤57∧(0 < u→c.toNat≠48)
 | 0,u,h=>by omega
 | k + 1,u,h=>by
   rw [Lib.decDigits]
   split
   ·rename_i hu
    exact ⟨_,_,rfl,by rw [Uc hu];omega,by rw [Uc hu];omega,fun h=>by rw [Uc hu];omega⟩
   ·rename_i hu
    obtain ⟨c,r,h1,h2,h3,h4⟩:=afw k (u / 10) (by omega)
    exact ⟨c,r++[_],by rw [h1];rfl,h2,h3,fun _=>h4 (by omega)⟩
theorem abf {n:Int} (h0:0≤n) (h1:n < 1000000000000000000):Lib.atoiAll (Lib.itoa n) = .ok n:=by
 have e:Lib.itoa n = Lib.decDigits n.toNat:=by rw [Lib.itoa,if_neg (by omega)]
 obtain ⟨c,r,hc,h2,h3,_⟩:=afw (n.toNat + 1) n.toNat (by omega)
 have hp:=aor (n.toNat + 1) n.toNat (by omega) (by omega)
 have hm:Lib.parseMag (c :: r) = .ok n.toNat:=by rw [Lib.parseMag,if_neg (by simp),← hc];exact hp
 have ha:Lib.atoiAll (c :: r) = .ok n:=by
  rw [Lib.atoiAll_plain c r (by omega) (by omega),hm]
  simp only [Lib.signless]
  rw [if_neg (by omega)]
  congr 1;omega
 rw [e,hc,ha]
theorem akG {n:Int} (h0:0≤n) (h1:n < 1000000000000000000):Xo (Lib.itoa n) = n:=by rw [Xo,abf h0 h1]
theorem agq:∀ (l:List UInt8) (acc n:Int),0≤acc→aab acc l = some n→acc≤n
 | [],acc,n,_,h=>by simp only [aab,zd] at h;omega
 | c :: l,acc,n,h0,h=>by
   simp only [aab] at h
   split at h
   ·cases h
   ·have:=agq l _ n (by omega) h
    omega
theorem apG:∀ (k:Nat) (l:List UInt8) (n:Int),l.length≤k→l≠[]→(1 < l.length→l[0]?≠some 48)→aab 0 l = some n→0≤n∧Lib.decDigits n.toNat = l:=by
 intro k
 induction k with
 | zero=>intro l n hk h;simp at hk;exact (h hk).elim
 | succ k ih =>
   intro l0 n hk h0 hz h
   obtain ⟨l,d,rfl⟩:∃ l d,l0 = l++[d]:=⟨l0.dropLast,l0.getLast h0,(List.dropLast_concat_getLast h0).symm⟩
   rw [aeV] at h
   cases hl:aab 0 l with
   | none=>rw [hl] at h;cases h
   | some m =>
     rw [hl,Option.bind_some] at h
     split at h
     ·cases h
     ·rename_i hd
      simp only [zd] at h
      have hdd:UInt8.ofNat (48 + (d.toNat - 48)) = d:=by
       apply UInt8.toNat_inj.1
       rw [Uc (by omega)];omega
      rcases l with _|⟨c,l⟩
      ·simp only [aab,zd] at hl
       subst hl
       refine ⟨by omega,?_⟩
       have e:n.toNat = d.toNat - 48:=by omega
       rw [e,Lib.decDigits,dif_pos (by omega),hdd]
       rfl
      ·have hz':c≠48:=by
        intro hc
        exact hz (by simp) (by simp [hc])
       obtain ⟨h1,h2⟩:=ih (c :: l) m (by simp at hk ⊢;omega) (by simp) (fun _=>by simpa using hz') hl
       have hm:1≤m:=by
        simp only [aab] at hl
        split at hl
        ·cases hl
        ·rename_i hc
         have:=agq l _ m (by omega) hl
         have hc':c.toNat≠48:=fun h=>hz' (UInt8.toNat_inj.1 (by simpa using h))
         omega
       refine ⟨by omega,?_⟩
       rw [Lib.decDigits,dif_neg (by omega)]
       have e1:n.toNat / 10 = m.toNat:=by omega
       have e2:n.toNat % 10 = d.toNat - 48:=by omega
       rw [e1,e2,h2,hdd]
theorem alU {r:List UInt8} {n:Int} (h:jF r = (n,true)):Lib.itoa n = r∧0≤n∧n < 1000000000000000:=by
 unfold jF at h
 split at h
 ·simp at h
 ·rename_i hb
  cases hn:aab 0 r with
  | none=>rw [hn] at h;simp at h
  | some m =>
    rw [hn] at h
    simp only [Prod.mk.injEq,and_true] at h
    subst h
    obtain ⟨h1,h2⟩:=apG r.length r m (zi _) (fun h=>hb (.inl h)) (fun h1 h2=>hb (.inr (.inr ⟨h1,h2⟩))) hn
    refine ⟨by rw [Lib.itoa,if_neg (by omega),h2],h1,?_⟩
    have hl:r.length≤15:=by omega
    have key:∀ (l:List UInt8) (acc n:Int),0≤acc→aab acc l = some n→n < (acc + 1) * ((10 ^ l.length:Nat):Int):=by
     intro l
     induction l with
     | nil=>intro acc n h0 h;simp only [aab,zd] at h;simp;omega
     | cons c l ih =>
       intro acc n h0 h
       simp only [aab] at h
       split at h
       ·cases h
       ·have:=ih _ n (by omega) h
        have e:((10 ^ (c :: l).length:Nat):Int) = 10 * ((10 ^ l.length:Nat):Int):=by
         rw [List.length_cons,Nat.pow_succ];omega
        rw [e]
        have h3:(0:Int)≤((10 ^ l.length:Nat):Int):=Int.natCast_nonneg _
        generalize ((10 ^ l.length:Nat):Int) = P at *
        have h2:acc * 10 + ((c.toNat:Int) - 48) + 1≤(acc + 1) * 10:=by omega
        have h4:=Int.mul_le_mul_of_nonneg_right h2 h3
        rw [Int.mul_assoc] at h4
        exact Int.lt_of_lt_of_le this h4
    have h3:=key r 0 m (by omega) hn
    have h4:=aot hl
    simp only [Int.zero_add,Int.one_mul] at h3
    omega
def yW:Qm:=⟨0,[],0,0,0,0,0,0,0,0,0,0⟩
def YK (c:Int):Qm:=if 1≤c∧c≤16 then Qq.getD (c - 1).toNat yW else yW
def Yq (c:Int):V:=.tup [(YK c).v,V.int (if 1≤c∧c≤16 then 0 else 8)]
theorem UA (c:Int):(Yq c).closed:=by simp only [Yq,Qm.v,Qm.cells,V.closed,Qa,and_self]
theorem jv (c:Int):(Yq c).noSl:=by simp only [Yq,Qm.v,Qm.cells,V.noSl,Um,and_self]
theorem YA:Qq.length = 16:=rfl
theorem ab3 {c:Int} (h:1≤c∧c≤16):(Qq.map Qm.v)[(c - 1).toNat]? = some (YK c).v:=by
 have hk:(c - 1).toNat < Qq.length:=by rw [YA];omega
 rw [zF,YK,if_pos h,zq,ze hk,Option.getD_some];rfl
theorem ab2 {c:Int} (h:¬ (1≤c∧c≤16)):YK c = yW:=by rw [YK,if_neg h]
def WW:=qd Proofs.Tryz.f116 []
def Wt (Γ:Env) (f:Nat):Prop:=∀ (c:Int),EvN Γ f [V.int c] (Yq c)
attribute [local go_sem] Qm.cells Qm.v in
theorem abH {Γ:Env} {f:Nat} (h:Has Γ.P f 20 WW.1.1.ac WW.1.2) (z0:YI Γ 147):Wt Γ f:=by
 intro c
 refine Qb h zsi (by first|exact UA c|exact jv c) (by first|exact UA c|exact jv c) fun C hC hm=>?_
 subst hC
 simp only [WW,qd,DC.ac]
 have hl:=YA
 by_cases h:1≤c∧c≤16
 ·have hg:=ab3 h
  have hw:IntKind.i64.wrap (c - 1) = c - 1:=Q9 (by omega) (by omega)
  have e1:decide (c < 1) = false:=by simp;omega
  have e2:decide (c > 16) = false:=by simp;omega
  have e3:decide (c > (((Qq.map Qm.v).length:Nat):Int)) = false:=by simp [hl];omega
  (have zx:=za hg (za hw (za e1 (za e2 e3))));refine zgo ?_;repeat' first|exact zt|apply zan|intro hc
  all_goals (simp only [Yq,if_pos h,Qm.v,Qm.cells];refine Qd _ rfl ?_;simp only [go_sem])
 ·have h0:=ab2 h
  by_cases h1:c < 1
  ·have e1:decide (c < 1) = true:=by simp;omega
   (have zx:=e1);refine zgo ?_;repeat' first|exact zt|apply zan|intro hc
   all_goals (simp only [Yq,if_neg h,h0,yW,Qm.v,Qm.cells];refine Qd _ rfl ?_;simp only [go_sem])
  ·have e1:decide (c < 1) = false:=by simp;omega
   have e2:decide (c > (((Qq.map Qm.v).length:Nat):Int)) = true:=by simp [hl];omega
   (have zx:=za e1 e2);refine zgo ?_;repeat' first|exact zt|apply zan|intro hc
   all_goals (simp only [Yq,if_neg h,h0,yW,Qm.v,Qm.cells];refine Qd _ rfl ?_;simp only [go_sem])
def jY:=qd Proofs.Tryz.f167 []
def xy (Γ:Env) (f:Nat):Prop:=∀ (a b:Int),EvN Γ f [V.int a,V.int b] (.agg [V.int a,V.int b])
theorem agX {Γ:Env} {f:Nat} (h:Has Γ.P f 8 jY.1.1.ac jY.1.2) :xy Γ f:=by
 intro a b
 refine Qb h zsi zcl zcl fun C hC hm=>?_
 subst hC
 simp only [jY,qd,DC.ac]
 refine zgo ?_;repeat' first|exact zt|apply zan|intro hc
 refine Qd _ rfl ?_;simp only [go_sem]
def UT:=qd Proofs.Tryz.f168 []
def qY (Γ:Env) (f:Nat):Prop:=∀ (c:Int) (n:List UInt8) (a1 a2 b1 b2 c1 c2 d1 d2 lo up:Int),EvN Γ f [V.int c,V.str n,.agg [V.int a1,V.int a2],.agg [V.int b1,V.int b2],.agg [V.int c1,V.int c2],.agg [V.int d1,V.int d2],V.int lo,V.int up] (.agg [V.int c,V.str n,V.int a1,V.int a2,V.int b1,V.int b2,V.int c1,V.int c2,V.int d1,V.int d2,V.int lo,V.int up])
theorem ady {Γ:Env} {f:Nat} (h:Has Γ.P f 26 UT.1.1.ac UT.1.2) :qY Γ f:=by
 intro c n a1 a2 b1 b2 c1 c2 d1 d2 lo up
 refine Qb h zsi zcl zcl fun C hC hm=>?_
 subst hC
 simp only [UT,qd,DC.ac]
 refine zgo ?_;repeat' first|exact zt|apply zan|intro hc
 refine Qd _ rfl ?_;simp only [go_sem]
def VT:=qd Proofs.Tryz.f122 [zhn 82]
def Xr (Γ:Env) (f:Nat):Prop:=EvC Γ f [] (.sl 12 (Qq.map Qm.v))
theorem acz {Γ:Env} {f:Nat} (h:Has Γ.P f 110 VT.1.1.ac VT.1.2) (z0:xy Γ 167) (z1:qY Γ 168):Xr Γ f:=by
 refine Qn h zsi (by simp only [V.closed]) fun C hC hm=>?_
 subst hC
 simp only [VT,qd,DC.ac]
 refine zgo ?_;repeat' first|exact zt|apply zan|intro hc
 refine Qd _ rfl ?_;simp only [go_sem]
 rfl
def UW:=qd Proofs.Tryz.f58 []
def V7 (Γ:Env) (f:Nat):Prop:=∀ (c:Int),EvN Γ f [V.int c] (Yq c)
attribute [local go_sem] Qm.cells Qm.v in
theorem adB {Γ:Env} {f:Nat} (h:Has Γ.P f 16 UW.1.1.ac UW.1.2) (z0:Xr Γ 122):V7 Γ f:=by
 intro c
 refine Qb h zsi (by first|exact UA c|exact jv c) (by first|exact UA c|exact jv c) fun C hC hm=>?_
 subst hC
 simp only [UW,qd,DC.ac]
 have hl:=YA
 by_cases h:1≤c∧c≤16
 ·have hg:=ab3 h
  have hw:IntKind.i64.wrap (c - 1) = c - 1:=Q9 (by omega) (by omega)
  have e1:decide (c < 1) = false:=by simp;omega
  have e2:decide (c > 16) = false:=by simp;omega
  (have zx:=za hg (za hw (za e1 e2)));refine zgo ?_;repeat' first|exact zt|apply zan|intro hc
  all_goals (simp only [Yq,if_pos h,Qm.v,Qm.cells];refine Qd _ rfl ?_;simp only [go_sem])
 ·have h0:=ab2 h
  by_cases h1:c < 1
  ·have e1:decide (c < 1) = true:=by simp;omega
   (have zx:=e1);refine zgo ?_;repeat' first|exact zt|apply zan|intro hc
   all_goals (simp only [Yq,if_neg h,h0,yW,Qm.v,Qm.cells];refine Qd _ rfl ?_;simp only [go_sem])
  ·have e1:decide (c < 1) = false:=by simp;omega
   have e2:decide (c > 16) = true:=by simp;omega
   (have zx:=za e1 e2);refine zgo ?_;repeat' first|exact zt|apply zan|intro hc
   all_goals (simp only [Yq,if_neg h,h0,yW,Qm.v,Qm.cells];refine Qd _ rfl ?_;simp only [go_sem])
def KA {α:Type} (p:α→Bool):Nat→List α→Int
 | _,[]=>-1
 | k,x :: r=>if p x = true then k else KA p (k + 1) r
theorem aek {α:Type} (p:α→Bool):∀ (l:List α) (k:Nat),-1≤KA p k l∧KA p k l≤((k + l.length:Nat):Int)
 | [],k=>by simp [KA]<;>omega
 | x :: r,k=>by
   have:=aek p r (k + 1)
   simp only [KA,List.length_cons]
   split<;>omega
def QE:=qd Proofs.Tryz.f213 []
def QV (Γ:Env) (f:Nat):Prop:=∀ (xs:List Qm) (g:Nat) (cap:List V) (p:Qm→Bool) (hp:∀ x∈xs,EvN Γ g (x.v :: cap) (V.bool (p x))) (hcap:Qa cap) (hl:xs.length < 2 ^ 62),EvN Γ f [.sl 12 (xs.map Qm.v),.clo g cap] (V.int (KA p 0 xs))
attribute [local go_sem] Qm.cells Qm.v in
theorem YZ {Γ:Env} {f:Nat} (h:Has Γ.P f 19 QE.1.1.ac QE.1.2) :QV Γ f:=by
 intro xs g cap p hp hcap hl
 refine Qb h zsi zcl zcl fun C hC hm=>?_
 subst hC
 simp only [QE,qd,DC.ac]
 have s1:∀ o,JI o cap = cap:=fun o=>J1 o cap hcap
 have s2:∀ o B,Qu o B cap = True:=fun o B=>eq_true (Jk o B cap hcap)
 refine zgo ?_;repeat' first|exact zt|apply zan|intro hc
 refine Qp (ι:=Nat) (fun k=>k≤xs.length∧KA p k (xs.drop k) = KA p 0 xs) (fun k=>[(8,V.int k)]) (fun k=>xs.length - k) 0 (by omega) ⟨by simp,by simp⟩ zol (fun i hi=>by simp only [ovT,Je,Nat.reduceEqDiff,reduceIte];(repeat' first|exact aar|refine xG ?_ ?_|simp only [V.lt,ltL,and_self,and_true]|omega);exact Xy _ _ hcap) (by simp only [Nat.reduceAdd,ovT,Je,Nat.reduceEqDiff,reduceIte,Xv,Vx,aiQ,u32,u33,u34,u35,u36,u37,u38,u39,and_self,and_true,true_and];first|rfl|exact QU _ _ hcap) fun k hk K' hL=>?_
 obtain ⟨hk,hinv⟩:=hk
 simp only [ovT,Je,Nat.reduceEqDiff,reduceIte]
 rcases hd:xs.drop k with _|⟨y,r⟩
 ·have:=Qj hd
  rw [hd] at hinv
  refine zgo ?_;repeat' first|exact zt|apply zan|intro hc
  refine Qd _ rfl ?_
  simp only [go_sem]
  rw [← hinv];rfl
 ·obtain ⟨hk,hget,hr⟩:=Qf hd
  rw [hd] at hinv
  have hw:=Qc (k:=k) (by omega)
  have hpy:=hp y (zk hget)
  by_cases hy:p y = true
  ·rw [hy] at hpy
   (have zy0:=hpy.b;have zx:=za hget (za hw (za s1 s2)));refine zgo ?_;repeat' first|exact zt|apply zan|intro hc
   refine Qd _ rfl ?_;simp only [go_sem]
   rw [← hinv];simp [KA,hy]
  ·have hy':p y = false:=by simpa using hy
   rw [hy'] at hpy
   (have zy0:=hpy.b;have zx:=za hget (za hw (za s1 s2)));refine zgo ?_;repeat' first|exact zt|apply zan|intro hc
   refine hL _ (k + 1) zet ⟨by omega,?_⟩ (by omega) zoe
   rw [hr,← hinv,KA,if_neg hy]
def Wo:=qd Proofs.Tryz.f214 []
def VK (Γ:Env) (f:Nat):Prop:=∀ (s:Qm) (n:List UInt8),EvN Γ f [s.v,.ro [V.str n] 0] (V.bool (s.name == n))
attribute [local go_sem] Qm.cells Qm.v in
theorem aaI {Γ:Env} {f:Nat} (h:Has Γ.P f 8 Wo.1.1.ac Wo.1.2) :VK Γ f:=by
 intro s n
 refine Qb h zsi zcl zcl fun C hC hm=>?_
 subst hC
 simp only [Wo,qd,DC.ac]
 refine zgo ?_;repeat' first|exact zt|apply zan|intro hc
 refine Qd _ rfl ?_;simp only [go_sem]
def qD (n:List UInt8):Int:=KA (fun s:Qm=>s.name == n) 0 Qq + 1
def V2:=qd Proofs.Tryz.f183 []
def Kv (Γ:Env) (f:Nat):Prop:=∀ (n:List UInt8),EvN Γ f [V.str n] (V.int (qD n))
theorem acK {Γ:Env} {f:Nat} (h:Has Γ.P f 7 V2.1.1.ac V2.1.2) (z0:YI Γ 147) (z1:VK Γ 214) (z2:QV Γ 213):Kv Γ f:=by
 intro n
 refine Qb h zsi zcl zcl fun C hC hm=>?_
 subst hC
 simp only [V2,qd,DC.ac]
 have hi:=z2 Qq 214 [.ro [V.str n] 0] (fun s=>s.name == n) (fun x _=>z1 x n) (by simp [Qa,V.closed]) (by rw [YA];omega)
 have hr:=aek (fun s:Qm=>s.name == n) Qq 0
 have hw:IntKind.i64.wrap (KA (fun s:Qm=>s.name == n) 0 Qq + 1) = qD n:=Q9 (by omega) (by have:=YA;omega)
 (have zy0:=hi.b;have zx:=hw);refine zgo ?_;repeat' first|exact zt|apply zan|intro hc
 refine Qd _ rfl ?_;simp only [go_sem]
theorem afx:∀ k,k < 16→∀ s,Qq[k]? = some s→s.code = ((k + 1:Nat):Int):=by decide
def K8:=qd Proofs.Tryz.f263 []
def yp (Γ:Env) (f:Nat):Prop:=∀ (n:List UInt8),EvN Γ f [V.str n] (V.int (qD n))
attribute [local go_sem] Qm.cells Qm.v in
theorem afj {Γ:Env} {f:Nat} (h:Has Γ.P f 24 K8.1.1.ac K8.1.2) (z0:Xr Γ 122):yp Γ f:=by
 intro n
 refine Qb h zsi zcl zcl fun C hC hm=>?_
 subst hC
 simp only [K8,qd,DC.ac]
 have hl:=YA
 refine zgo ?_;repeat' first|exact zt|apply zan|intro hc
 refine Qp (ι:=Nat) (fun k=>k≤16∧KA (fun s:Qm=>s.name == n) k (Qq.drop k) = KA (fun s:Qm=>s.name == n) 0 Qq) (fun k=>[(4,V.int k)]) (fun k=>16 - k) 0 (by omega) ⟨by simp,by simp⟩ zol zlt zet fun k hk K' hL=>?_
 obtain ⟨hk,hinv⟩:=hk
 simp only [ovT,Je,Nat.reduceEqDiff,reduceIte]
 rcases hd:Qq.drop k with _|⟨y,r⟩
 ·have:=Qj hd
  rw [hd] at hinv
  have e1:decide ((k:Int) < (((Qq.map Qm.v).length:Nat):Int)) = false:=by simp [hl];omega
  (have zx:=e1);refine zgo ?_;repeat' first|exact zt|apply zan|intro hc
  all_goals (refine Qd _ rfl ?_;simp only [go_sem];rw [qD,← hinv];rfl)
 ·obtain ⟨hk',hget,hr⟩:=Qf hd
  rw [hd] at hinv
  have hw:=Qc (k:=k) (by omega)
  have e1:decide ((k:Int) < (((Qq.map Qm.v).length:Nat):Int)) = true:=by simp [hl];omega
  have hcode:=afx k (by omega) y hget
  (have zx:=za hget (za hw e1));refine zgo ?_;repeat' first|exact zt|apply zan|intro hc
  ·refine Qd _ rfl ?_;simp only [go_sem]
   rw [qD,← hinv,hcode];simp [KA, *]
  ·refine hL _ (k + 1) zet ⟨by omega,?_⟩ (by omega) zoe
   rw [hr,← hinv,KA,if_neg (by simpa using hc)]
def jZ:=qd Proofs.Tryz.f59 []
def qr (Γ:Env) (f:Nat):Prop:=∀ (l:List Int) (n:Int) (hl:l.length < 2 ^ 62),EvN Γ f [.sl 1 (l.map V.int),V.int n] (V.bool (l.contains n))
theorem agY {Γ:Env} {f:Nat} (h:Has Γ.P f 18 jZ.1.1.ac jZ.1.2) :qr Γ f:=by
 intro l n hl
 refine Qb h zsi zcl zcl fun C hC hm=>?_
 subst hC
 simp only [jZ,qd,DC.ac]
 refine zgo ?_;repeat' first|exact zt|apply zan|intro hc
 refine Qp (ι:=Nat) (fun k=>k≤l.length∧(l.drop k).contains n = l.contains n) (fun k=>[(5,V.int k)]) (fun k=>l.length - k) 0 (by omega) ⟨by simp,by simp⟩ zol zlt zet fun k hk K' hL=>?_
 obtain ⟨hk,hinv⟩:=hk
 simp only [ovT,Je,Nat.reduceEqDiff,reduceIte]
 rcases hd:l.drop k with _|⟨y,r⟩
 ·have:=Qj hd
  rw [hd] at hinv
  refine zgo ?_;repeat' first|exact zt|apply zan|intro hc
  all_goals (refine Qd _ rfl ?_;simp only [go_sem];rw [← hinv];rfl)
 ·obtain ⟨hk',hget,hr⟩:=Qf hd
  rw [hd] at hinv
  have hw:=Qc (k:=k) (by omega)
  (have zx:=za hget hw);refine zgo ?_;repeat' first|exact zt|apply zan|intro hc
  ·refine Qd _ rfl ?_;simp only [go_sem]
   rw [← hinv];simp [hc]
  ·refine hL _ (k + 1) zet ⟨by omega,?_⟩ (by omega) zoe
   rw [hr,← hinv,List.contains_cons]
   have:(n == y) = false:=by simp;exact fun h=>hc h.symm
   rw [this,kD]
def Wf:=qd Proofs.Tryz.f46 [zhn 9]
def VF (Γ:Env) (f:Nat):Prop:=∀ (a b:List Int) (hl:a.length < 2 ^ 62),EvN Γ f [.sl 1 (a.map V.int),.sl 1 (b.map V.int)] (V.bool (a == b))
theorem aaz {Γ:Env} {f:Nat} (h:Has Γ.P f 26 Wf.1.1.ac Wf.1.2) :VF Γ f:=by
 intro a b hl
 refine Qb h zsi zcl zcl fun C hC hm=>?_
 subst hC
 simp only [Wf,qd,DC.ac]
 by_cases hlen:a.length = b.length
 ·have e0:((((a.map V.int).length:Nat):Int) != (((b.map V.int).length:Nat):Int)) = false:=by simp [hlen]
  (have zx:=e0);refine zgo ?_;repeat' first|exact zt|apply zan|intro hc
  refine Qp (ι:=Nat) (fun k=>k≤a.length∧(a.drop k == b.drop k) = (a == b)) (fun k=>[(5,V.int k)]) (fun k=>a.length - k) 0 (by omega) ⟨by simp,by simp⟩ zol zlt (by simp only [Nat.reduceAdd,ovT,Je,Nat.reduceEqDiff,reduceIte,Xv,Vx,aiQ,u32,u33,u34,u35,u36,u37,u38,u39,and_self,and_true,true_and]<;>rfl) fun k hk K' hL=>?_
  obtain ⟨hk,hinv⟩:=hk
  simp only [ovT,Je,Nat.reduceEqDiff,reduceIte]
  rcases hd:a.drop k with _|⟨y,r⟩
  ·have:=Qj hd
   have hd2:b.drop k = []:=zX (by omega)
   rw [hd,hd2] at hinv
   refine zgo ?_;repeat' first|exact zt|apply zan|intro hc
   all_goals (refine Qd _ rfl ?_;simp only [go_sem];rw [← hinv];rfl)
  ·obtain ⟨hk',hget,hr⟩:=Qf hd
   rcases hd2:b.drop k with _|⟨z,r2⟩
   ·have:=Qj hd2;omega
   ·obtain ⟨hk2,hget2,hr2⟩:=Qf hd2
    rw [hd,hd2] at hinv
    have hw:=Qc (k:=k) (by omega)
    by_cases hyz:y = z
    ·have e2:(y != z) = false:=by simp [hyz]
     (have zx:=za hget (za hget2 (za hw e2)));refine zgo ?_;repeat' first|exact zt|apply zan|intro hc
     refine hL _ (k + 1) zet ⟨by omega,?_⟩ (by omega) zoe
     rw [hr,hr2,← hinv];simp [hyz]
    ·have e2:(y != z) = true:=by simp [hyz]
     (have zx:=za hget (za hget2 (za hw e2)));refine zgo ?_;repeat' first|exact zt|apply zan|intro hc
     all_goals (refine Qd _ rfl ?_;simp only [go_sem];rw [← hinv];simp [hyz])
 ·have e0:((((a.map V.int).length:Nat):Int) != (((b.map V.int).length:Nat):Int)) = true:=by simp;omega
  have e1:(a == b) = false:=by
   simp only [kM,ne_eq]
   intro h;exact hlen (by rw [h])
  (have zx:=e0);refine zgo ?_;repeat' first|exact zt|apply zan|intro hc
  all_goals (refine Qd _ rfl ?_;simp only [go_sem];rw [e1])
def yT (c:Int):Int:=if 1≤c∧c≤16 then QG (YK c).ci1 (YK c).ci2 else 0
def Yv:=qd Proofs.Tryz.f256 []
def Xp (Γ:Env) (f:Nat):Prop:=∀ (c:Int),EvN Γ f [V.int c] (V.int (yT c))
attribute [local go_sem] Qm.cells Qm.v in
theorem y6 {Γ:Env} {f:Nat} (h:Has Γ.P f 15 Yv.1.1.ac Yv.1.2) (z0:Wt Γ 116) (z1:J9 Γ 164):Xp Γ f:=by
 intro c
 refine Qb h zsi zcl zcl fun C hC hm=>?_
 subst hC
 simp only [Yv,qd,DC.ac]
 by_cases h:1≤c∧c≤16
 ·have e:Yq c = .tup [(YK c).v,V.int 0]:=by rw [Yq,if_pos h]
  have hs:yT c = QG (YK c).ci1 (YK c).ci2:=by rw [yT,if_pos h]
  rw [hs]
  (have zx:=e);refine zgo ?_;repeat' first|exact zt|apply zan|intro hc
  all_goals (refine Qd _ rfl ?_;simp only [go_sem])
 ·have e:Yq c = .tup [(YK c).v,V.int 8]:=by rw [Yq,if_neg h]
  have hs:yT c = 0:=by rw [yT,if_neg h]
  rw [hs]
  (have zx:=e);refine zgo ?_;repeat' first|exact zt|apply zan|intro hc
  all_goals (refine Qd _ rfl ?_;simp only [go_sem])
def Wd:=qd Proofs.Tryz.f170 []
def XU (Γ:Env) (f:Nat):Prop:=∀ (c:Int),EvN Γ f [V.int c] (V.int (yT c))
attribute [local go_sem] Qm.cells Qm.v in
theorem aax {Γ:Env} {f:Nat} (h:Has Γ.P f 15 Wd.1.1.ac Wd.1.2) (z0:V7 Γ 58) (z1:XV Γ 204):XU Γ f:=by
 intro c
 refine Qb h zsi zcl zcl fun C hC hm=>?_
 subst hC
 simp only [Wd,qd,DC.ac]
 by_cases h:1≤c∧c≤16
 ·have e:Yq c = .tup [(YK c).v,V.int 0]:=by rw [Yq,if_pos h]
  have hs:yT c = QG (YK c).ci1 (YK c).ci2:=by rw [yT,if_pos h]
  rw [hs]
  (have zx:=e);refine zgo ?_;repeat' first|exact zt|apply zan|intro hc
  all_goals (refine Qd _ rfl ?_;simp only [go_sem])
 ·have e:Yq c = .tup [(YK c).v,V.int 8]:=by rw [Yq,if_neg h]
  have hs:yT c = 0:=by rw [yT,if_neg h]
  rw [hs]
  (have zx:=e);refine zgo ?_;repeat' first|exact zt|apply zan|intro hc
  all_goals (refine Qd _ rfl ?_;simp only [go_sem])
def XZ:List (List UInt8):=[[97,108,108],[104,105,103,104],[109,101,100,105,117,109],[108,111,119],[118,49],[118,50],[118,51],[118,52]]
def Xn (n:List UInt8):Bool:=XZ.contains n || decide (JR n 0 QR > 0) || decide (qD n > 0)
def UN:=qd Proofs.Tryz.f233 []
def qV (Γ:Env) (f:Nat):Prop:=∀ (n:List UInt8),EvN Γ f [V.str n] (V.bool (Xn n))
theorem ads {Γ:Env} {f:Nat} (h:Has Γ.P f 21 UN.1.1.ac UN.1.2) (z0:Vf Γ 197) (z1:yp Γ 263):qV Γ f:=by
 intro n
 refine Qb h zsi zcl zcl fun C hC hm=>?_
 subst hC
 simp only [UN,qd,DC.ac]
 by_cases hg:n∈XZ
 ·have e:Xn n = true:=by simp [Xn,hg]
  rw [e]
  simp only [XZ,zn,zw,or_false] at hg
  rcases hg with rfl|rfl|rfl|rfl|rfl|rfl|rfl|rfl
  all_goals
   refine zgo ?_;repeat' first|exact zt|apply zan|intro hc
   all_goals (refine Qd _ rfl ?_;simp only [go_sem])
 ·have e0:XZ.contains n = false:=by simpa using hg
  have e:Xn n = (decide (JR n 0 QR > 0) || decide (qD n > 0)):=by simp only [Xn,e0,kD]
  rw [e]
  simp only [XZ,zn,zw,or_false,not_or] at hg
  obtain ⟨h1,h2,h3,h4,h5,h6,h7,h8⟩:=hg
  have g1:=beq_eq_false_iff_ne.2 h1
  have g2:=beq_eq_false_iff_ne.2 h2
  have g3:=beq_eq_false_iff_ne.2 h3
  have g4:=beq_eq_false_iff_ne.2 h4
  have g5:=beq_eq_false_iff_ne.2 h5
  have g6:=beq_eq_false_iff_ne.2 h6
  have g7:=beq_eq_false_iff_ne.2 h7
  have g8:=beq_eq_false_iff_ne.2 h8
  rcases hf:decide (JR n 0 QR > 0) with _|_
  all_goals
   (have zx:=za hf (za g1 (za g2 (za g3 (za g4 (za g5 (za g6 (za g7 g8))))))));refine zgo ?_;repeat' first|exact zt|apply zan|intro hc
   all_goals first|exact zr|(refine Qd _ rfl ?_;simp only [go_sem];simp;done)
def Uz (n:List UInt8) (st lo up:Int):Option Bool :=
 if n = [97,108,108] then some true else if n = [104,105,103,104] then some (decide (st≥128)) else if n = [109,101,100,105,117,109] then some (decide (st≥112) && decide (st < 128))
 else if n = [108,111,119] then some (decide (st < 112)) else if n = [118,49] then some (decide (lo≤1) && decide (1≤up)) else if n = [118,50] then some (decide (lo≤2) && decide (2≤up))
 else if n = [118,51] then some (decide (lo≤3) && decide (3≤up)) else if n = [118,52] then some (decide (lo≤4) && decide (4≤up)) else none
def ahC:Option Bool→V
 | some b=>.tup [V.bool b,V.bool true]
 | none=>.tup [V.bool false,V.bool false]
theorem acm (x:Option Bool):(ahC x).closed:=by cases x<;>simp only [ahC,V.closed,Qa,and_self]
theorem agp (x:Option Bool):(ahC x).noSl:=by cases x<;>simp only [ahC,V.noSl,Um,and_self]
theorem aat {n:List UInt8} (st lo up:Int) (h:n ∉ XZ):Uz n st lo up = none:=by
 simp only [XZ,zn,zw,or_false,not_or] at h
 obtain ⟨h1,h2,h3,h4,h5,h6,h7,h8⟩:=h
 rw [Uz,if_neg h1,if_neg h2,if_neg h3,if_neg h4,if_neg h5,if_neg h6,if_neg h7,if_neg h8]
def XC:=qd Proofs.Tryz.f182 []
def W8 (Γ:Env) (f:Nat):Prop:=∀ (s:Qm) (n:List UInt8),EvN Γ f [s.v,V.str n] (ahC (Uz n (QG s.ci1 s.ci2) s.lo s.hi))
attribute [local go_sem] Qm.cells Qm.v in
theorem vq {Γ:Env} {f:Nat} (h:Has Γ.P f 49 XC.1.1.ac XC.1.2) (z0:J9 Γ 164):W8 Γ f:=by
 intro s n
 refine Qb h zsi (by first|exact acm _|exact agp _) (by first|exact acm _|exact agp _) fun C hC hm=>?_
 subst hC
 simp only [XC,qd,DC.ac]
 generalize hst:QG s.ci1 s.ci2 = st
 by_cases hg:n∈XZ
 ·simp only [XZ,zn,zw,or_false] at hg
  rcases hg with rfl|rfl|rfl|rfl|rfl|rfl|rfl|rfl
  ·(have zx:=hst);refine zgo ?_;repeat' first|exact zt|apply zan|intro hc
   all_goals (simp only [Uz,ahC,if_true];refine Qd _ rfl ?_;simp only [go_sem])
  ·(have zx:=hst);refine zgo ?_;repeat' first|exact zt|apply zan|intro hc
   all_goals (have e:Uz [104,105,103,104] st s.lo s.hi = some (decide (st≥128)):=rfl;rw [e];simp only [ahC];refine Qd _ rfl ?_;simp only [go_sem])
  ·have e:Uz [109,101,100,105,117,109] st s.lo s.hi = some (decide (st≥112) && decide (st < 128)):=rfl
   rw [e]
   rcases h1:decide (st≥112) with _|_<;>rcases h2:decide (st < 128) with _|_
   all_goals
    (have zx:=za hst (za h1 h2));refine zgo ?_;repeat' first|exact zt|apply zan|intro hc
    all_goals (simp only [ahC,kf,zS,zG,zB,zA];refine Qd _ rfl ?_;simp only [go_sem])
  ·(have zx:=hst);refine zgo ?_;repeat' first|exact zt|apply zan|intro hc
   all_goals (have e:Uz [108,111,119] st s.lo s.hi = some (decide (st < 112)):=rfl;rw [e];simp only [ahC];refine Qd _ rfl ?_;simp only [go_sem])
  ·have e:Uz [118,49] st s.lo s.hi = some (decide (s.lo≤1) && decide (1≤s.hi)):=rfl
   have ew:IntKind.i64.wrap (IntKind.u8.wrap (((UInt8.toNat 49:Nat):Int) - 48)) = 1:=rfl
   rw [e]
   rcases h1:decide (s.lo≤1) with _|_<;>rcases h2:decide (1≤s.hi) with _|_
   all_goals
    (have zx:=za hst (za ew (za h1 h2)));refine zgo ?_;repeat' first|exact zt|apply zan|intro hc
    all_goals (simp only [ahC,kf,zS,zG,zB,zA];refine Qd _ rfl ?_;simp only [go_sem])
  ·have e:Uz [118,50] st s.lo s.hi = some (decide (s.lo≤2) && decide (2≤s.hi)):=rfl
   have ew:IntKind.i64.wrap (IntKind.u8.wrap (((UInt8.toNat 50:Nat):Int) - 48)) = 2:=rfl
   rw [e]
   rcases h1:decide (s.lo≤2) with _|_<;>rcases h2:decide (2≤s.hi) with _|_
   all_goals
    (have zx:=za hst (za ew (za h1 h2)));refine zgo ?_;repeat' first|exact zt|apply zan|intro hc
    all_goals (simp only [ahC,kf,zS,zG,zB,zA];refine Qd _ rfl ?_;simp only [go_sem])
  ·have e:Uz [118,51] st s.lo s.hi = some (decide (s.lo≤3) && decide (3≤s.hi)):=rfl
   have ew:IntKind.i64.wrap (IntKind.u8.wrap (((UInt8.toNat 51:Nat):Int) - 48)) = 3:=rfl
   rw [e]
   rcases h1:decide (s.lo≤3) with _|_<;>rcases h2:decide (3≤s.hi) with _|_
   all_goals
    (have zx:=za hst (za ew (za h1 h2)));refine zgo ?_;repeat' first|exact zt|apply zan|intro hc
    all_goals (simp only [ahC,kf,zS,zG,zB,zA];refine Qd _ rfl ?_;simp only [go_sem])
  ·have e:Uz [118,52] st s.lo s.hi = some (decide (s.lo≤4) && decide (4≤s.hi)):=rfl
   have ew:IntKind.i64.wrap (IntKind.u8.wrap (((UInt8.toNat 52:Nat):Int) - 48)) = 4:=rfl
   rw [e]
   rcases h1:decide (s.lo≤4) with _|_<;>rcases h2:decide (4≤s.hi) with _|_
   all_goals
    (have zx:=za hst (za ew (za h1 h2)));refine zgo ?_;repeat' first|exact zt|apply zan|intro hc
    all_goals (simp only [ahC,kf,zS,zG,zB,zA];refine Qd _ rfl ?_;simp only [go_sem])
 ·rw [aat st s.lo s.hi hg]
  simp only [XZ,zn,zw,or_false,not_or] at hg
  obtain ⟨h1,h2,h3,h4,h5,h6,h7,h8⟩:=hg
  have g1:=beq_eq_false_iff_ne.2 h1
  have g2:=beq_eq_false_iff_ne.2 h2
  have g3:=beq_eq_false_iff_ne.2 h3
  have g4:=beq_eq_false_iff_ne.2 h4
  have g5:=beq_eq_false_iff_ne.2 h5
  have g6:=beq_eq_false_iff_ne.2 h6
  have g7:=beq_eq_false_iff_ne.2 h7
  have g8:=beq_eq_false_iff_ne.2 h8
  (have zx:=za hst (za g1 (za g2 (za g3 (za g4 (za g5 (za g6 (za g7 g8))))))));refine zgo ?_;repeat' first|exact zt|apply zan|intro hc
  all_goals (simp only [ahC];refine Qd _ rfl ?_;simp only [go_sem])
def wb (n:List UInt8) (s:Qm):Bool×Bool :=
 match Uz n (QG s.ci1 s.ci2) s.lo s.hi with
 | some b=>(b,true)
 | none=>((decide (JR n 0 QR > 0) && decide (Xu (JR n 0 QR) 0 [s.kx1,s.sg1,s.ci1,s.mc1]≥0)) || (decide (qD n > 0) && s.code == qD n),decide (JR n 0 QR > 0) || decide (qD n > 0))
def Yr (n:List UInt8) (s:Qm):Bool :=
 match Uz n (yT s.code) s.lo s.hi with
 | some b=>b
 | none=>(decide (JR n 0 QR > 0) && (s.kx1 == JR n 0 QR || s.sg1 == JR n 0 QR || s.ci1 == JR n 0 QR || s.mc1 == JR n 0 QR)) || s.name == n
def ajV (p:Bool×Bool):V:=.tup [V.bool p.1,V.bool p.2]
def XB:=qd Proofs.Tryz.f149 []
def W7 (Γ:Env) (f:Nat):Prop:=∀ (s:Qm) (n:List UInt8),EvN Γ f [s.v,V.str n] (ajV (wb n s))
attribute [local go_sem] Qm.cells Qm.v in
theorem vp {Γ:Env} {f:Nat} (h:Has Γ.P f 59 XB.1.1.ac XB.1.2) (z0:W8 Γ 182) (z1:Vn Γ 154) (z2:Kv Γ 183) (z3:Qt Γ 117):W7 Γ f:=by
 intro s n
 refine Qb h zsi (by simp only [ajV,V.closed,Qa,V.noSl,Um,and_self]) (by simp only [ajV,V.closed,Qa,V.noSl,Um,and_self]) fun C hC hm=>?_
 subst hC
 simp only [XB,qd,DC.ac]
 have hg:=(z0 s n).b
 rcases hn:Uz n (QG s.ci1 s.ci2) s.lo s.hi with _|b
 ·have e:wb n s = ((decide (JR n 0 QR > 0) && decide (Xu (JR n 0 QR) 0 [s.kx1,s.sg1,s.ci1,s.mc1]≥0)) || (decide (qD n > 0) && s.code == qD n),decide (JR n 0 QR > 0) || decide (qD n > 0)):=by rw [wb,hn]
  rw [e]
  rw [hn] at hg
  simp only [ahC,Qm.v,Qm.cells] at hg
  have hf:=(z3 [s.kx1,s.sg1,s.ci1,s.mc1] (JR n 0 QR) (by simp)).b
  simp only [zp,zo] at hf
  rcases h1:decide (JR n 0 QR > 0) with _|_<;>rcases h2:decide (qD n > 0) with _|_<;>rcases h3:decide (Xu (JR n 0 QR) 0 [s.kx1,s.sg1,s.ci1,s.mc1]≥0) with _|_
  all_goals
   rw [h3] at hf
   (have zx:=za h1 h2);refine zgo ?_;repeat' first|exact zt|apply zan|intro hc
   all_goals (simp only [ajV,kf,zS,zG,zB,zA,Zt,kP,Zm,kD,kX];refine Qd _ rfl ?_;simp only [go_sem];done)
 ·have e:wb n s = (b,true):=by rw [wb,hn]
  rw [e]
  rw [hn] at hg
  simp only [ahC,Qm.v,Qm.cells] at hg
  refine zgo ?_;repeat' first|exact zt|apply zan|intro hc
  all_goals (simp only [ajV];refine Qd _ rfl ?_;simp only [go_sem];done)
def UM:=qd Proofs.Tryz.f234 []
def qU (Γ:Env) (f:Nat):Prop:=∀ (n:List UInt8) (s:Qm),EvN Γ f [V.str n,s.v] (V.bool (Yr n s))
attribute [local go_sem] Qm.cells Qm.v in
theorem adr {Γ:Env} {f:Nat} (h:Has Γ.P f 85 UM.1.1.ac UM.1.2) (z0:XU Γ 170) (z1:Vf Γ 197):qU Γ f:=by
 intro n s
 refine Qb h zsi zcl zcl fun C hC hm=>?_
 subst hC
 simp only [UM,qd,DC.ac]
 generalize hst:yT s.code = st
 by_cases hg:n∈XZ
 ·simp only [XZ,zn,zw,or_false] at hg
  rcases hg with rfl|rfl|rfl|rfl|rfl|rfl|rfl|rfl
  ·have e:Yr [97,108,108] s = true:=rfl
   rw [e]
   (have zx:=hst);refine zgo ?_;repeat' first|exact zt|apply zan|intro hc
   all_goals (refine Qd _ rfl ?_;simp only [go_sem])
  ·have e:Yr [104,105,103,104] s = decide (yT s.code≥128):=rfl
   rw [e,hst]
   (have zx:=hst);refine zgo ?_;repeat' first|exact zt|apply zan|intro hc
   all_goals (refine Qd _ rfl ?_;simp only [go_sem])
  ·have e:Yr [109,101,100,105,117,109] s = (decide (yT s.code≥112) && decide (yT s.code < 128)):=rfl
   rw [e,hst]
   rcases h1:decide (st≥112) with _|_<;>rcases h2:decide (st < 128) with _|_
   all_goals
    (have zx:=za hst (za h1 h2));refine zgo ?_;repeat' first|exact zt|apply zan|intro hc
    all_goals ((try simp only [kf,zS,zG,zB,zA]);refine Qd _ rfl ?_;simp only [go_sem])
  ·have e:Yr [108,111,119] s = decide (yT s.code < 112):=rfl
   rw [e,hst]
   (have zx:=hst);refine zgo ?_;repeat' first|exact zt|apply zan|intro hc
   all_goals (refine Qd _ rfl ?_;simp only [go_sem])
  ·have e:Yr [118,49] s = (decide (s.lo≤1) && decide (1≤s.hi)):=rfl
   have ew:IntKind.i64.wrap (IntKind.u8.wrap (((UInt8.toNat 49:Nat):Int) - 48)) = 1:=rfl
   rw [e]
   rcases h1:decide (s.lo≤1) with _|_<;>rcases h2:decide (1≤s.hi) with _|_
   all_goals
    (have zx:=za hst (za ew (za h1 h2)));refine zgo ?_;repeat' first|exact zt|apply zan|intro hc
    all_goals ((try simp only [kf,zS,zG,zB,zA]);refine Qd _ rfl ?_;simp only [go_sem])
  ·have e:Yr [118,50] s = (decide (s.lo≤2) && decide (2≤s.hi)):=rfl
   have ew:IntKind.i64.wrap (IntKind.u8.wrap (((UInt8.toNat 50:Nat):Int) - 48)) = 2:=rfl
   rw [e]
   rcases h1:decide (s.lo≤2) with _|_<;>rcases h2:decide (2≤s.hi) with _|_
   all_goals
    (have zx:=za hst (za ew (za h1 h2)));refine zgo ?_;repeat' first|exact zt|apply zan|intro hc
    all_goals ((try simp only [kf,zS,zG,zB,zA]);refine Qd _ rfl ?_;simp only [go_sem])
  ·have e:Yr [118,51] s = (decide (s.lo≤3) && decide (3≤s.hi)):=rfl
   have ew:IntKind.i64.wrap (IntKind.u8.wrap (((UInt8.toNat 51:Nat):Int) - 48)) = 3:=rfl
   rw [e]
   rcases h1:decide (s.lo≤3) with _|_<;>rcases h2:decide (3≤s.hi) with _|_
   all_goals
    (have zx:=za hst (za ew (za h1 h2)));refine zgo ?_;repeat' first|exact zt|apply zan|intro hc
    all_goals ((try simp only [kf,zS,zG,zB,zA]);refine Qd _ rfl ?_;simp only [go_sem])
  ·have e:Yr [118,52] s = (decide (s.lo≤4) && decide (4≤s.hi)):=rfl
   have ew:IntKind.i64.wrap (IntKind.u8.wrap (((UInt8.toNat 52:Nat):Int) - 48)) = 4:=rfl
   rw [e]
   rcases h1:decide (s.lo≤4) with _|_<;>rcases h2:decide (4≤s.hi) with _|_
   all_goals
    (have zx:=za hst (za ew (za h1 h2)));refine zgo ?_;repeat' first|exact zt|apply zan|intro hc
    all_goals ((try simp only [kf,zS,zG,zB,zA]);refine Qd _ rfl ?_;simp only [go_sem])
 ·have e:Yr n s = ((decide (JR n 0 QR > 0) && (s.kx1 == JR n 0 QR || s.sg1 == JR n 0 QR || s.ci1 == JR n 0 QR || s.mc1 == JR n 0 QR)) || s.name == n):=by rw [Yr,aat _ _ _ hg]
  rw [e]
  simp only [XZ,zn,zw,or_false,not_or] at hg
  obtain ⟨h1,h2,h3,h4,h5,h6,h7,h8⟩:=hg
  have g1:=beq_eq_false_iff_ne.2 h1
  have g2:=beq_eq_false_iff_ne.2 h2
  have g3:=beq_eq_false_iff_ne.2 h3
  have g4:=beq_eq_false_iff_ne.2 h4
  have g5:=beq_eq_false_iff_ne.2 h5
  have g6:=beq_eq_false_iff_ne.2 h6
  have g7:=beq_eq_false_iff_ne.2 h7
  have g8:=beq_eq_false_iff_ne.2 h8
  generalize hf:JR n 0 QR = a
  rcases k0:decide (a > 0) with _|_
  ·(have zx:=za hst (za hf (za k0 (za g1 (za g2 (za g3 (za g4 (za g5 (za g6 (za g7 g8))))))))));refine zgo ?_;repeat' first|exact zt|apply zan|intro hc
   all_goals ((try simp only [zB,kD]);refine Qd _ rfl ?_;simp only [go_sem])
  ·rcases k1:s.kx1 == a with _|_<;>rcases k2:s.sg1 == a with _|_<;>rcases k3:s.ci1 == a with _|_<;>rcases k4:s.mc1 == a with _|_
   all_goals
    (have zx:=za hst (za hf (za k0 (za k1 (za k2 (za k3 (za k4 (za g1 (za g2 (za g3 (za g4 (za g5 (za g6 (za g7 g8))))))))))))));refine zgo ?_;repeat' first|exact zt|apply zan|intro hc
    all_goals ((try simp only [kf,zS,zG,zB,zA,Zt,kP,Zm,kD,kX]);refine Qd _ rfl ?_;simp only [go_sem];done)
theorem aja {α:Type} (p:α→Bool):∀ (l:List α) (k:Nat),0≤KA p k l→∃ j x,l[j]? = some x∧p x = true∧KA p k l = ((k + j:Nat):Int)
 | [],k,h=>by simp [KA] at h
 | x :: r,k,h=>by
   by_cases hx:p x = true
   ·exact ⟨0,x,rfl,hx,by simp [KA,hx]⟩
   ·have e:KA p k (x :: r) = KA p (k + 1) r:=by simp [KA,hx]
    rw [e] at h ⊢
    obtain ⟨j,y,h1,h2,h3⟩:=aja p r (k + 1) h
    exact ⟨j + 1,y,by simpa using h1,h2,by rw [h3];congr 1;omega⟩
theorem Kc (x:Int):∀ (l:List Int) (k:Nat),0≤Xu x k l↔x∈l
 | [],k=>by simp [Xu]
 | y :: r,k=>by
   by_cases hy:y = x
   ·subst hy;simp [Xu]
   ·have:=Kc x r (k + 1)
    have e:Xu x k (y :: r) = Xu x (k + 1) r:=by rw [Xu,if_neg (fun h=>hy h.symm)]
    rw [e,this,zn]
    exact ⟨Or.inr,fun h=>h.elim (fun h=>absurd h.symm hy) id⟩
theorem amn:∀ s∈Qq,qD s.name = s.code:=by decide
theorem ahN:∀ s∈Qq,yT s.code = QG s.ci1 s.ci2:=by decide
theorem akv {s:Qm} (hs:s∈Qq) (n:List UInt8):(decide (qD n > 0) && s.code == qD n) = (s.name == n):=by
 by_cases h:s.name = n
 ·subst h
  have h1:=amn s hs
  obtain ⟨k,hk,hg⟩:=kx hs
  have h2:=afx k hk s (by rw [ze hk,hg])
  have h3:qD s.name > 0:=by rw [h1,h2];omega
  simp [h3,h1];omega
 ·have e:(s.name == n) = false:=by simpa using h
  rw [e,kJ]
  by_cases h0:qD n > 0
  ·right
   simp only [kM,ne_eq]
   intro hc
   obtain ⟨j,x,h1,h2,h3⟩:=aja (fun s:Qm=>s.name == n) Qq 0 (by unfold qD at h0;omega)
   obtain ⟨k,hk,hg⟩:=kx hs
   have h4:=afx k hk s (by rw [ze hk,hg])
   have hkj:k = j:=by unfold qD at hc;omega
   subst hkj
   rw [ze hk,hg] at h1
   cases h1
   exact h (by simpa using h2)
  ·left;simpa using h0
theorem ake {n:List UInt8} (st lo hi:Int) (h:n∈XZ):∃ b,Uz n st lo hi = some b:=by
 simp only [XZ,zn,zw,or_false] at h
 rcases h with rfl|rfl|rfl|rfl|rfl|rfl|rfl|rfl<;>exact ⟨_,rfl⟩
theorem ah5 {n:List UInt8} {s:Qm}:(wb n s).2 = Xn n:=by
 by_cases h:n∈XZ
 ·obtain ⟨b,hb⟩:=ake (QG s.ci1 s.ci2) s.lo s.hi h
  rw [wb,hb,Xn];simp [h]
 ·rw [wb,aat _ _ _ h,Xn];simp [h]
theorem aj9 {s:Qm} (hs:s∈Qq) (n:List UInt8):Yr n s = (wb n s).1:=by
 have h1:=ahN s hs
 have h2:=akv hs n
 have h3:decide (Xu (JR n 0 QR) 0 [s.kx1,s.sg1,s.ci1,s.mc1]≥0) = (s.kx1 == JR n 0 QR || s.sg1 == JR n 0 QR || s.ci1 == JR n 0 QR || s.mc1 == JR n 0 QR):=by
  rw [Zp]
  simp only [zL,ge_iff_le,Kc,zn,zw,or_false,ky,kA]
  constructor
  ·rintro (h|h|h|h)<;>simp [h]
  ·rintro (((h|h)|h)|h)<;>simp [h]
 rw [Yr,wb,h1]
 cases Uz n (QG s.ci1 s.ci2) s.lo s.hi with
 | some b=>rfl
 | none=>simp only [h2,h3]
def J0 (c:UInt8):List UInt8→List UInt8→List (List UInt8)
 | cur,[]=>[cur]
 | cur,x :: r=>if x = c then cur :: J0 c [] r else J0 c (cur++[x]) r
def QK (c:UInt8) (s:List UInt8):List (List UInt8):=J0 c [] s
theorem af8 (c:UInt8):∀ (r cur:List UInt8),J0 c cur r≠[]
 | [],cur=>by simp [J0]
 | x :: r,cur=>by
   rw [J0];split
   ·simp
   ·exact af8 c r _
def UL:=qd Proofs.Tryz.f155 []
def V3 (Γ:Env) (f:Nat):Prop:=∀ (s:List UInt8) (c:UInt8) (hs:s.length < 2 ^ 34),EvC Γ f [V.str s,.sc (.int .u8 c.toNat)] (.sl 1 ((QK c s).map V.str))
attribute [local go_sem] Yd in
theorem adq {Γ:Env} {f:Nat} (h:Has Γ.P f 35 UL.1.1.ac UL.1.2) :V3 Γ f:=by
 intro s c hs
 refine Qn h zsi (by simp only [V.closed]) fun C hC hm=>?_
 subst hC
 simp only [UL,qd,DC.ac]
 refine zgo ?_;repeat' first|exact zt|apply zan|intro hc
 refine QA (ι:=Nat×Nat×List (List UInt8)) (fun p=>p.1≤s.length + 1∧p.2.1≤p.1∧p.2.2.length≤p.1∧(p.1≤s.length→p.2.2++J0 c ((s.take p.1).drop p.2.1) (s.drop p.1) = QK c s)∧(p.1 = s.length + 1→p.2.2 = QK c s))
  (fun p=>Yd [(0,V.str s),(1,.sc (.int .u8 c.toNat)),(5,.hd 0 0 p.2.2.length),(6,V.int p.2.1),(7,V.int p.1)] [(0,.buf true 1 (p.2.2.map V.str))] 1) (fun p=>s.length + 2 - p.1) (0,0,[]) ⟨by simp,by simp,by simp,fun _=>by simp [QK],fun h=>by simp at h⟩ (Qo [(0,1000)]) (zwg [(0,1000)]) fun p hp K' hL=>?_
 obtain ⟨k,fr,out⟩:=p
 obtain ⟨h1,h2,h3,h4,h5⟩:=hp
 simp only at h1 h2 h3 h4 h5
 by_cases hk:k≤s.length
 ·have e1:decide ((k:Int)≤s.length) = true:=by simp;omega
  have hw:IntKind.i64.wrap ((k:Int) + 1) = ((k + 1:Nat):Int):=by rw [Q9 (by omega) (by omega)];rfl
  have hcur:List.take (k - fr) (List.drop fr s) = (s.take k).drop fr:=by rw [Ze]
  have hb:List.take out.length (List.map V.str out)++[V.sc (Value.string ⟨((s.take k).drop fr).toArray⟩)] = (out++[(s.take k).drop fr]).map V.str:=by
   rw [zb (by simp),zD];rfl
  have hlen:out.length + 1 = (out++[(s.take k).drop fr]).length:=by simp
  by_cases hkl:k = s.length
  ·have e2:((k:Int) == s.length) = true:=by simp;omega
   have hfin:out++[(s.take k).drop fr] = QK c s:=by
    have hdr:s.drop k = []:=zX (by omega)
    rw [← h4 hk,hdr,J0]
   (have zx:=za e1 (za e2 hw));refine zgo ?_;repeat' first|exact zt|apply zan|intro hc
   all_goals
    rw [hcur,hb,hlen]
    exact hL _ (k + 1,k + 1,out++[(s.take k).drop fr]) (Qo [(0,21001)]) ⟨by simp only;omega,by simp,by simp;omega,fun h=>by simp only at h;omega,fun _=>hfin⟩ (by simp only;omega) (zwg [(0,21001)])
  ·have e2:((k:Int) == s.length) = false:=by simp;omega
   obtain ⟨x,hx⟩:∃ x,s[k]? = some x:=⟨s[k]'(by omega),ze (by omega)⟩
   have hd:s.drop k = x :: s.drop (k + 1):=by
    rw [zM (by omega)];congr 1
    rw [ze (by omega)] at hx;exact kK hx
   have ht:(s.take (k + 1)).drop fr = (s.take k).drop fr++[x]:=by
    rw [zy,hx,km (by simp;omega)];rfl
   have h4':=h4 hk
   rw [hd,J0] at h4'
   by_cases hxc:x = c
   ·have e3:((x.toNat:Int) == (c.toNat:Int)) = true:=by simp [hxc]
    rw [if_pos hxc] at h4'
    have hz:(s.take (k + 1)).drop (k + 1) = []:=zX (by simp;omega)
    (have zx:=za e1 (za e2 (za hw (za hx e3))));refine zgo ?_;repeat' first|exact zt|apply zan|intro hc
    all_goals
     rw [hcur,hb,hlen]
     exact hL _ (k + 1,k + 1,out++[(s.take k).drop fr]) (Qo [(0,21001)]) ⟨by simp only;omega,by simp,by simp;omega,fun h=>by simp only;rw [hz,zP];exact h4',fun h=>by simp only at h;omega⟩ (by simp only;omega) (zwg [(0,21001)])
   ·have e3:((x.toNat:Int) == (c.toNat:Int)) = false:=by
     simp only [kM,ne_eq];intro h;exact hxc (UInt8.toNat_inj.1 (by omega))
    rw [if_neg hxc] at h4'
    (have zx:=za e1 (za e2 (za hw (za hx e3))));refine zgo ?_;repeat' first|exact zt|apply zan|intro hc
    all_goals
     exact hL _ (k + 1,fr,out) (Qo []) ⟨by simp only;omega,by simp only;omega,by simp only;omega,fun h=>by simp only;rw [ht];exact h4',fun h=>by simp only at h;omega⟩ (by simp only;omega) (zwg [])
 ·have e1:decide ((k:Int)≤s.length) = false:=by simp;omega
  have hout:=h5 (by omega)
  subst hout
  (have zx:=e1);refine zgo ?_;repeat' first|exact zt|apply zan|intro hc
  all_goals (refine Qd _ rfl ?_;simp only [go_sem];rw [zb (by simp)])
end Av
end
