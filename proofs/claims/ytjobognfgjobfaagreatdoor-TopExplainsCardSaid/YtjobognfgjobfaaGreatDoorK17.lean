/- K17 -/
import Derived.Test.YtjobognfgjobfaaGreatDoorK16
import Derived.Lib.IndexLaws
import Derived.Lib.AtoiAllCases
import Derived.Test.YtjobognfgjobfaaGreatDoorK12
import Derived.Test.YtjobognfgjobfaaGreatDoorK13
set_option linter.unusedVariables false
set_option linter.unusedSimpArgs false
noncomputable section
set_option maxRecDepth 10000
set_option maxHeartbeats 4000000
namespace Av
open Go
attribute [local irreducible] AWp WC wb aai awS awC aeM awQ afz Jk qV aes awR jj awB okR aaf ris
theorem vM {k:Nat} (h:k < 10):(UInt8.ofNat (48 + k)).toNat = 48 + k:=by
 rw [UInt8.toNat_ofNat'];omega
theorem aos (d:UInt8):∀ (l:List UInt8) (acc:Int),aiQ acc (l++[d]) = (aiQ acc l).bind fun n=>if d.toNat < 48∨57 < d.toNat then none else some (n * 10 + ((d.toNat:Int) - 48))
 | [],acc=>by simp [aiQ]
 | c :: l,acc=>by
   simp only [List.cons_append,aiQ]
   split
   ·rfl
   ·exact aos d l _
theorem auK (d:UInt8):∀ (l:List UInt8) (acc n:Nat),Lib.parseUint10 acc l = .ok n→48≤d.toNat∧d.toNat≤57→n < 1844674407370955161→Lib.parseUint10 acc (l++[d]) = .ok (n * 10 + (d.toNat - 48))
 | [],acc,n,h,hd,hn=>by
   simp only [Lib.parseUint10,Lib.NumEnd.ok.injEq] at h
   subst h
   simp only [List.nil_append,Lib.parseUint10]
   rw [if_pos hd,if_neg (by omega),if_neg (by omega)]
 | c :: l,acc,n,h,hd,hn=>by
   simp only [Lib.parseUint10] at h
   simp only [List.cons_append,Lib.parseUint10]
   split at h
   ·rename_i h1
    rw [if_pos h1]
    split at h
    ·cases h
    ·rename_i h2
     rw [if_neg h2]
     split at h
     ·cases h
     ·rename_i h3
      rw [if_neg h3]
      exact auK d l _ n h hd hn
   ·cases h
theorem auJ:∀ (k u:Nat),u < k→u < 1000000000000000000→Lib.parseUint10 0 (Lib.decDigits u) = .ok u
 | 0,u,h,_=>by omega
 | k + 1,u,h,hb=>by
   rw [Lib.decDigits]
   split
   ·rename_i hu
    have e:=vM hu
    simp only [Lib.parseUint10,e]
    rw [if_pos (by omega),if_neg (by omega),if_neg (by omega)]
    congr 1;omega
   ·rename_i hu
    have e:=vM (k:=u % 10) (by omega)
    rw [auK _ _ _ (u / 10) (auJ k (u / 10) (by omega) (by omega)) (by omega) (by omega),e]
    congr 1;omega
theorem aoZ:∀ (k u:Nat),u < k→∃ c r,Lib.decDigits u = c :: r∧48≤c.toNat∧c.toNat≤57∧(0 < u→c.toNat≠48)
 | 0,u,h=>by omega
 | k + 1,u,h=>by
   rw [Lib.decDigits]
   split
   ·rename_i hu
    exact ⟨_,_,rfl,by rw [vM hu];omega,by rw [vM hu];omega,fun h=>by rw [vM hu];omega⟩
   ·rename_i hu
    obtain ⟨c,r,h1,h2,h3,h4⟩:=aoZ k (u / 10) (by omega)
    exact ⟨c,r++[_],by rw [h1];rfl,h2,h3,fun _=>h4 (by omega)⟩
theorem agi {n:Int} (h0:0≤n) (h1:n < 1000000000000000000):Lib.atoiAll (Lib.itoa n) = .ok n:=by
 have e:Lib.itoa n = Lib.decDigits n.toNat:=by rw [Lib.itoa,if_neg (by omega)]
 obtain ⟨c,r,hc,h2,h3,_⟩:=aoZ (n.toNat + 1) n.toNat (by omega)
 have hp:=auJ (n.toNat + 1) n.toNat (by omega) (by omega)
 have hm:Lib.parseMag (c :: r) = .ok n.toNat:=by rw [Lib.parseMag,if_neg (by simp),← hc];exact hp
 have ha:Lib.atoiAll (c :: r) = .ok n:=by
  rw [Lib.atoiAll_plain c r (by omega) (by omega),hm]
  simp only [Lib.signless]
  rw [if_neg (by omega)]
  congr 1;omega
 rw [e,hc,ha]
theorem aqu {n:Int} (h0:0≤n) (h1:n < 1000000000000000000):yo (Lib.itoa n) = n:=by rw [yo,agi h0 h1]
theorem alx:∀ (l:List UInt8) (acc n:Int),0≤acc→aiQ acc l = some n→acc≤n
 | [],acc,n,_,h=>by simp only [aiQ,zf] at h;omega
 | c :: l,acc,n,h0,h=>by
   simp only [aiQ] at h
   split at h
   ·cases h
   ·have:=alx l _ n (by omega) h
    omega
theorem awk:∀ (k:Nat) (l:List UInt8) (n:Int),l.length≤k→l≠[]→(1 < l.length→l[0]?≠some 48)→aiQ 0 l = some n→0≤n∧Lib.decDigits n.toNat = l:=by
 intro k
 induction k with
 | zero=>intro l n hk h;simp at hk;exact (h hk).elim
 | succ k ih =>
   intro l0 n hk h0 hz h
   obtain ⟨l,d,rfl⟩:∃ l d,l0 = l++[d]:=⟨l0.dropLast,l0.getLast h0,(List.dropLast_concat_getLast h0).symm⟩
   rw [aos] at h
   cases hl:aiQ 0 l with
   | none=>rw [hl] at h;cases h
   | some m =>
     rw [hl,Option.bind_some] at h
     split at h
     ·cases h
     ·rename_i hd
      simp only [zf] at h
      have hdd:UInt8.ofNat (48 + (d.toNat - 48)) = d:=by
       apply UInt8.toNat_inj.1
       rw [vM (by omega)];omega
      rcases l with _|⟨c,l⟩
      ·simp only [aiQ,zf] at hl
       subst hl
       refine ⟨by omega,?_⟩
       have e:n.toNat = d.toNat - 48:=by omega
       rw [e,Lib.decDigits,dif_pos (by omega),hdd]
       rfl
      ·have hz':c≠48:=by
        intro hc
        exact hz (by simp) (by simp [hc])
       obtain ⟨h1,h2⟩:=ih (c :: l) m (by simp at hk ⊢;omega) (by simp) (fun _=>by simpa using hz') hl
       have hm:1≤m:=by
        simp only [aiQ] at hl
        split at hl
        ·cases hl
        ·rename_i hc
         have:=alx l _ m (by omega) hl
         have hc':c.toNat≠48:=fun h=>hz' (UInt8.toNat_inj.1 (by simpa using h))
         omega
       refine ⟨by omega,?_⟩
       rw [Lib.decDigits,dif_neg (by omega)]
       have e1:n.toNat / 10 = m.toNat:=by omega
       have e2:n.toNat % 10 = d.toNat - 48:=by omega
       rw [e1,e2,h2,hdd]
theorem arV {r:List UInt8} {n:Int} (h:aa6 r = (n,true)):Lib.itoa n = r∧0≤n∧n < 1000000000000000:=by
 unfold aa6 at h
 split at h
 ·simp at h
 ·rename_i hb
  cases hn:aiQ 0 r with
  | none=>rw [hn] at h;simp at h
  | some m =>
    rw [hn] at h
    simp only [Prod.mk.injEq,and_true] at h
    subst h
    obtain ⟨h1,h2⟩:=awk r.length r m (zj _) (fun h=>hb (.inl h)) (fun h1 h2=>hb (.inr (.inr ⟨h1,h2⟩))) hn
    refine ⟨by rw [Lib.itoa,if_neg (by omega),h2],h1,?_⟩
    have hl:r.length≤15:=by omega
    have key:∀ (l:List UInt8) (acc n:Int),0≤acc→aiQ acc l = some n→n < (acc + 1) * ((10 ^ l.length:Nat):Int):=by
     intro l
     induction l with
     | nil=>intro acc n h0 h;simp only [aiQ,zf] at h;simp;omega
     | cons c l ih =>
       intro acc n h0 h
       simp only [aiQ] at h
       split at h
       ·cases h
       ·have:=ih _ n (by omega) h
        have e:((10 ^ (c :: l).length:Nat):Int) = 10 * ((10 ^ l.length:Nat):Int):=by
         rw [List.length_cons,Nat.pow_succ];omega
        rw [e]
        have h3:(0:Int)≤((10 ^ l.length:Nat):Int):=Int.natCast_nonneg _
        generalize ((10 ^ l.length:Nat):Int) = P at *
        have h2:acc * 10 + ((c.toNat:Int) - 48) + 1≤(acc + 1) * 10:=by omega
        have h4:=Int.mul_le_mul_of_nonneg_right h2 h3
        rw [Int.mul_assoc] at h4
        exact Int.lt_of_lt_of_le this h4
    have h3:=key r 0 m (by omega) hn
    have h4:=axg hl
    simp only [Int.zero_add,Int.one_mul] at h3
    omega
def ahs:QC:=⟨0,[],0,0,0,0,0,0,0,0,0,0⟩
def qZ (c:Int):QC:=if 1≤c∧c≤16 then Jd.getD (c - 1).toNat ahs else ahs
def yG (c:Int):V:=.tup [(qZ c).v,V.int (if 1≤c∧c≤16 then 0 else 8)]
theorem ads (c:Int):(yG c).closed:=by simp only [yG,QC.v,QC.cells,V.closed,Qb,and_self]
theorem ahr (c:Int):(yG c).noSl:=by simp only [yG,QC.v,QC.cells,V.noSl,Wi,and_self]
theorem qY:Jd.length = 16:=rfl
theorem amT {c:Int} (h:1≤c∧c≤16):(Jd.map QC.v)[(c - 1).toNat]? = some (qZ c).v:=by
 have hk:(c - 1).toNat < Jd.length:=by rw [qY];omega
 rw [zo,qZ,if_pos h,zI,zd hk,Option.getD_some];rfl
theorem amS {c:Int} (h:¬ (1≤c∧c≤16)):qZ c = ahs:=by rw [qZ,if_neg h]
def KV:=qd Proofs.Tryz.f194 []
def U0 (Γ:Env) (f:Nat):Prop:=∀ (c:Int),EvN Γ f [V.int c] (yG c)
attribute [local go_sem] QC.cells QC.v in
theorem agP {Γ:Env} {f:Nat} (h:Has Γ.P f 20 KV.1.1.ac KV.1.2) (z0:Wf Γ 177):U0 Γ f:=by
 intro c
 refine Qc h zsi (by first|exact ads c|exact ahr c) (by first|exact ads c|exact ahr c) fun C hC hm=>?_
 subst hC
 simp only [KV,qd,DC.ac]
 have hl:=qY
 by_cases h:1≤c∧c≤16
 ·have hg:=amT h
  have hw:IntKind.i64.wrap (c - 1) = c - 1:=Jc (by omega) (by omega)
  have e1:decide (c < 1) = false:=by simp;omega
  have e2:decide (c > 16) = false:=by simp;omega
  have e3:decide (c > (((Jd.map QC.v).length:Nat):Int)) = false:=by simp [hl];omega
  (have zx:=za hg (za hw (za e1 (za e2 e3))));refine zgo ?_;repeat' first|exact zt|apply zan|intro hc
  all_goals (simp only [yG,if_pos h,QC.v,QC.cells];refine Qg _ rfl ?_;simp only [go_sem])
 ·have h0:=amS h
  by_cases h1:c < 1
  ·have e1:decide (c < 1) = true:=by simp;omega
   (have zx:=e1);refine zgo ?_;repeat' first|exact zt|apply zan|intro hc
   all_goals (simp only [yG,if_neg h,h0,ahs,QC.v,QC.cells];refine Qg _ rfl ?_;simp only [go_sem])
  ·have e1:decide (c < 1) = false:=by simp;omega
   have e2:decide (c > (((Jd.map QC.v).length:Nat):Int)) = true:=by simp [hl];omega
   (have zx:=za e1 e2);refine zgo ?_;repeat' first|exact zt|apply zan|intro hc
   all_goals (simp only [yG,if_neg h,h0,ahs,QC.v,QC.cells];refine Qg _ rfl ?_;simp only [go_sem])
def ja {α:Type} (p:α→Bool):Nat→List α→Int
 | _,[]=>-1
 | k,x :: r=>if p x = true then k else ja p (k + 1) r
theorem ajE {α:Type} (p:α→Bool):∀ (l:List α) (k:Nat),-1≤ja p k l∧ja p k l≤((k + l.length:Nat):Int)
 | [],k=>by simp [ja]<;>omega
 | x :: r,k=>by
   have:=ajE p r (k + 1)
   simp only [ja,List.length_cons]
   split<;>omega
def QY:=qd Proofs.Tryz.f276 []
def JB (Γ:Env) (f:Nat):Prop:=∀ (xs:List QC) (g:Nat) (cap:List V) (p:QC→Bool) (hp:∀ x∈xs,EvN Γ g (x.v :: cap) (V.bool (p x))) (hcap:Qb cap) (hl:xs.length < 2 ^ 62),EvN Γ f [.sl 12 (xs.map QC.v),.clo g cap] (V.int (ja p 0 xs))
attribute [local go_sem] QC.cells QC.v in
theorem WP {Γ:Env} {f:Nat} (h:Has Γ.P f 19 QY.1.1.ac QY.1.2) :JB Γ f:=by
 intro xs g cap p hp hcap hl
 refine Qc h zsi zcl zcl fun C hC hm=>?_
 subst hC
 simp only [QY,qd,DC.ac]
 have s1:∀ o,Yj o cap = cap:=fun o=>Yg o cap hcap
 have s2:∀ o B,Qw o B cap = True:=fun o B=>eq_true (Jz o B cap hcap)
 refine zgo ?_;repeat' first|exact zt|apply zan|intro hc
 refine Ji (ι:=Nat) (fun k=>k≤xs.length∧ja p k (xs.drop k) = ja p 0 xs) (fun k=>[(8,V.int k)]) (fun k=>xs.length - k) 0 (by omega) ⟨by simp,by simp⟩ zol (fun i hi=>by simp only [ovT,Xs,Nat.reduceEqDiff,reduceIte];(repeat' first|exact ae0|refine abY ?_ ?_|simp only [V.lt,ltL,and_self,and_true]|omega);exact YG _ _ hcap) (by simp only [Nat.reduceAdd,ovT,Xs,Nat.reduceEqDiff,reduceIte,KA,xA,aqC,u32,u33,u34,u35,u36,u37,u38,u39,and_self,and_true,true_and];first|rfl|exact Qy _ _ hcap) fun k hk K' hL=>?_
 obtain ⟨hk,hinv⟩:=hk
 simp only [ovT,Xs,Nat.reduceEqDiff,reduceIte]
 rcases hd:xs.drop k with _|⟨y,r⟩
 ·have:=Qu hd
  rw [hd] at hinv
  refine zgo ?_;repeat' first|exact zt|apply zan|intro hc
  refine Qg _ rfl ?_
  simp only [go_sem]
  rw [← hinv];rfl
 ·obtain ⟨hk,hget,hr⟩:=Qq hd
  rw [hd] at hinv
  have hw:=Qe (k:=k) (by omega)
  have hpy:=hp y (zq hget)
  by_cases hy:p y = true
  ·rw [hy] at hpy
   (have zy0:=hpy.b;have zx:=za hget (za hw (za s1 s2)));refine zgo ?_;repeat' first|exact zt|apply zan|intro hc
   refine Qg _ rfl ?_;simp only [go_sem]
   rw [← hinv];simp [ja,hy]
  ·have hy':p y = false:=by simpa using hy
   rw [hy'] at hpy
   (have zy0:=hpy.b;have zx:=za hget (za hw (za s1 s2)));refine zgo ?_;repeat' first|exact zt|apply zan|intro hc
   refine hL _ (k + 1) zet ⟨by omega,?_⟩ (by omega) zoe
   rw [hr,← hinv,ja,if_neg hy]
def UT:=qd Proofs.Tryz.f277 []
def jI (Γ:Env) (f:Nat):Prop:=∀ (s:QC) (n:List UInt8),EvN Γ f [s.v,.ro [V.str n] 0] (V.bool (s.name == n))
attribute [local go_sem] QC.cells QC.v in
theorem afs {Γ:Env} {f:Nat} (h:Has Γ.P f 8 UT.1.1.ac UT.1.2) :jI Γ f:=by
 intro s n
 refine Qc h zsi zcl zcl fun C hC hm=>?_
 subst hC
 simp only [UT,qd,DC.ac]
 refine zgo ?_;repeat' first|exact zt|apply zan|intro hc
 refine Qg _ rfl ?_;simp only [go_sem]
def abt (n:List UInt8):Int:=ja (fun s:QC=>s.name == n) 0 Jd + 1
def j5:=qd Proofs.Tryz.f233 []
def x9 (Γ:Env) (f:Nat):Prop:=∀ (n:List UInt8),EvN Γ f [V.str n] (V.int (abt n))
theorem aie {Γ:Env} {f:Nat} (h:Has Γ.P f 7 j5.1.1.ac j5.1.2) (z0:Wf Γ 177) (z1:jI Γ 277) (z2:JB Γ 276):x9 Γ f:=by
 intro n
 refine Qc h zsi zcl zcl fun C hC hm=>?_
 subst hC
 simp only [j5,qd,DC.ac]
 have hi:=z2 Jd 277 [.ro [V.str n] 0] (fun s=>s.name == n) (fun x _=>z1 x n) (by simp [Qb,V.closed]) (by rw [qY];omega)
 have hr:=ajE (fun s:QC=>s.name == n) Jd 0
 have hw:IntKind.i64.wrap (ja (fun s:QC=>s.name == n) 0 Jd + 1) = abt n:=Jc (by omega) (by have:=qY;omega)
 (have zy0:=hi.b;have zx:=hw);refine zgo ?_;repeat' first|exact zt|apply zan|intro hc
 refine Qg _ rfl ?_;simp only [go_sem]
theorem ao1:∀ k,k < 16→∀ s,Jd[k]? = some s→s.code = ((k + 1:Nat):Int):=by decide
def ag8 (c:Int):Int:=if 1≤c∧c≤16 then Qx (qZ c).ci1 (qZ c).ci2 else 0
def X0:=qd Proofs.Tryz.f314 []
def Vy (Γ:Env) (f:Nat):Prop:=∀ (c:Int),EvN Γ f [V.int c] (V.int (ag8 c))
attribute [local go_sem] QC.cells QC.v in
theorem abl {Γ:Env} {f:Nat} (h:Has Γ.P f 15 X0.1.1.ac X0.1.2) (z0:U0 Γ 194) (z1:Xo Γ 192):Vy Γ f:=by
 intro c
 refine Qc h zsi zcl zcl fun C hC hm=>?_
 subst hC
 simp only [X0,qd,DC.ac]
 by_cases h:1≤c∧c≤16
 ·have e:yG c = .tup [(qZ c).v,V.int 0]:=by rw [yG,if_pos h]
  have hs:ag8 c = Qx (qZ c).ci1 (qZ c).ci2:=by rw [ag8,if_pos h]
  rw [hs]
  (have zx:=e);refine zgo ?_;repeat' first|exact zt|apply zan|intro hc
  all_goals (refine Qg _ rfl ?_;simp only [go_sem])
 ·have e:yG c = .tup [(qZ c).v,V.int 8]:=by rw [yG,if_neg h]
  have hs:ag8 c = 0:=by rw [ag8,if_neg h]
  rw [hs]
  (have zx:=e);refine zgo ?_;repeat' first|exact zt|apply zan|intro hc
  all_goals (refine Qg _ rfl ?_;simp only [go_sem])
def aar:List (List UInt8):=[[97,108,108],[104,105,103,104],[109,101,100,105,117,109],[108,111,119],[118,49],[118,50],[118,51],[118,52]]
def aaW (n:List UInt8):Bool:=aar.contains n || decide (qS n 0 Y3 > 0) || decide (abt n > 0)
def yJ (n:List UInt8) (st lo up:Int):Option Bool :=
 if n = [97,108,108] then some true else if n = [104,105,103,104] then some (decide (st≥128)) else if n = [109,101,100,105,117,109] then some (decide (st≥112) && decide (st < 128))
 else if n = [108,111,119] then some (decide (st < 112)) else if n = [118,49] then some (decide (lo≤1) && decide (1≤up)) else if n = [118,50] then some (decide (lo≤2) && decide (2≤up))
 else if n = [118,51] then some (decide (lo≤3) && decide (3≤up)) else if n = [118,52] then some (decide (lo≤4) && decide (4≤up)) else none
def amL:Option Bool→V
 | some b=>.tup [V.bool b,V.bool true]
 | none=>.tup [V.bool false,V.bool false]
theorem ahJ (x:Option Bool):(amL x).closed:=by cases x<;>simp only [amL,V.closed,Qb,and_self]
theorem alw (x:Option Bool):(amL x).noSl:=by cases x<;>simp only [amL,V.noSl,Wi,and_self]
theorem ajG {n:List UInt8} (st lo up:Int) (h:n ∉ aar):yJ n st lo up = none:=by
 simp only [aar,zw,zD,or_false,not_or] at h
 obtain ⟨h1,h2,h3,h4,h5,h6,h7,h8⟩:=h
 rw [yJ,if_neg h1,if_neg h2,if_neg h3,if_neg h4,if_neg h5,if_neg h6,if_neg h7,if_neg h8]
def VJ:=qd Proofs.Tryz.f232 []
def qj (Γ:Env) (f:Nat):Prop:=∀ (s:QC) (n:List UInt8),EvN Γ f [s.v,V.str n] (amL (yJ n (Qx s.ci1 s.ci2) s.lo s.hi))
attribute [local go_sem] QC.cells QC.v in
theorem adT {Γ:Env} {f:Nat} (h:Has Γ.P f 49 VJ.1.1.ac VJ.1.2) (z0:Xo Γ 192):qj Γ f:=by
 intro s n
 refine Qc h zsi (by first|exact ahJ _|exact alw _) (by first|exact ahJ _|exact alw _) fun C hC hm=>?_
 subst hC
 simp only [VJ,qd,DC.ac]
 generalize hst:Qx s.ci1 s.ci2 = st
 by_cases hg:n∈aar
 ·simp only [aar,zw,zD,or_false] at hg
  rcases hg with rfl|rfl|rfl|rfl|rfl|rfl|rfl|rfl
  ·(have zx:=hst);refine zgo ?_;repeat' first|exact zt|apply zan|intro hc
   all_goals (simp only [yJ,amL,if_true];refine Qg _ rfl ?_;simp only [go_sem])
  ·(have zx:=hst);refine zgo ?_;repeat' first|exact zt|apply zan|intro hc
   all_goals (have e:yJ [104,105,103,104] st s.lo s.hi = some (decide (st≥128)):=rfl;rw [e];simp only [amL];refine Qg _ rfl ?_;simp only [go_sem])
  ·have e:yJ [109,101,100,105,117,109] st s.lo s.hi = some (decide (st≥112) && decide (st < 128)):=rfl
   rw [e]
   rcases h1:decide (st≥112) with _|_<;>rcases h2:decide (st < 128) with _|_
   all_goals
    (have zx:=za hst (za h1 h2));refine zgo ?_;repeat' first|exact zt|apply zan|intro hc
    all_goals (simp only [amL,ZJ,ku,zY,zK,zO];refine Qg _ rfl ?_;simp only [go_sem])
  ·(have zx:=hst);refine zgo ?_;repeat' first|exact zt|apply zan|intro hc
   all_goals (have e:yJ [108,111,119] st s.lo s.hi = some (decide (st < 112)):=rfl;rw [e];simp only [amL];refine Qg _ rfl ?_;simp only [go_sem])
  ·have e:yJ [118,49] st s.lo s.hi = some (decide (s.lo≤1) && decide (1≤s.hi)):=rfl
   have ew:IntKind.i64.wrap (IntKind.u8.wrap (((UInt8.toNat 49:Nat):Int) - 48)) = 1:=rfl
   rw [e]
   rcases h1:decide (s.lo≤1) with _|_<;>rcases h2:decide (1≤s.hi) with _|_
   all_goals
    (have zx:=za hst (za ew (za h1 h2)));refine zgo ?_;repeat' first|exact zt|apply zan|intro hc
    all_goals (simp only [amL,ZJ,ku,zY,zK,zO];refine Qg _ rfl ?_;simp only [go_sem])
  ·have e:yJ [118,50] st s.lo s.hi = some (decide (s.lo≤2) && decide (2≤s.hi)):=rfl
   have ew:IntKind.i64.wrap (IntKind.u8.wrap (((UInt8.toNat 50:Nat):Int) - 48)) = 2:=rfl
   rw [e]
   rcases h1:decide (s.lo≤2) with _|_<;>rcases h2:decide (2≤s.hi) with _|_
   all_goals
    (have zx:=za hst (za ew (za h1 h2)));refine zgo ?_;repeat' first|exact zt|apply zan|intro hc
    all_goals (simp only [amL,ZJ,ku,zY,zK,zO];refine Qg _ rfl ?_;simp only [go_sem])
  ·have e:yJ [118,51] st s.lo s.hi = some (decide (s.lo≤3) && decide (3≤s.hi)):=rfl
   have ew:IntKind.i64.wrap (IntKind.u8.wrap (((UInt8.toNat 51:Nat):Int) - 48)) = 3:=rfl
   rw [e]
   rcases h1:decide (s.lo≤3) with _|_<;>rcases h2:decide (3≤s.hi) with _|_
   all_goals
    (have zx:=za hst (za ew (za h1 h2)));refine zgo ?_;repeat' first|exact zt|apply zan|intro hc
    all_goals (simp only [amL,ZJ,ku,zY,zK,zO];refine Qg _ rfl ?_;simp only [go_sem])
  ·have e:yJ [118,52] st s.lo s.hi = some (decide (s.lo≤4) && decide (4≤s.hi)):=rfl
   have ew:IntKind.i64.wrap (IntKind.u8.wrap (((UInt8.toNat 52:Nat):Int) - 48)) = 4:=rfl
   rw [e]
   rcases h1:decide (s.lo≤4) with _|_<;>rcases h2:decide (4≤s.hi) with _|_
   all_goals
    (have zx:=za hst (za ew (za h1 h2)));refine zgo ?_;repeat' first|exact zt|apply zan|intro hc
    all_goals (simp only [amL,ZJ,ku,zY,zK,zO];refine Qg _ rfl ?_;simp only [go_sem])
 ·rw [ajG st s.lo s.hi hg]
  simp only [aar,zw,zD,or_false,not_or] at hg
  obtain ⟨h1,h2,h3,h4,h5,h6,h7,h8⟩:=hg
  have g1:=beq_eq_false_iff_ne.2 h1
  have g2:=beq_eq_false_iff_ne.2 h2
  have g3:=beq_eq_false_iff_ne.2 h3
  have g4:=beq_eq_false_iff_ne.2 h4
  have g5:=beq_eq_false_iff_ne.2 h5
  have g6:=beq_eq_false_iff_ne.2 h6
  have g7:=beq_eq_false_iff_ne.2 h7
  have g8:=beq_eq_false_iff_ne.2 h8
  (have zx:=za hst (za g1 (za g2 (za g3 (za g4 (za g5 (za g6 (za g7 g8))))))));refine zgo ?_;repeat' first|exact zt|apply zan|intro hc
  all_goals (simp only [amL];refine Qg _ rfl ?_;simp only [go_sem])
def acv (n:List UInt8) (s:QC):Bool×Bool :=
 match yJ n (Qx s.ci1 s.ci2) s.lo s.hi with
 | some b=>(b,true)
 | none=>((decide (qS n 0 Y3 > 0) && decide (VB (qS n 0 Y3) 0 [s.kx1,s.sg1,s.ci1,s.mc1]≥0)) || (decide (abt n > 0) && s.code == abt n),decide (qS n 0 Y3 > 0) || decide (abt n > 0))
def acu (n:List UInt8) (s:QC):Bool :=
 match yJ n (ag8 s.code) s.lo s.hi with
 | some b=>b
 | none=>(decide (qS n 0 Y3 > 0) && (s.kx1 == qS n 0 Y3 || s.sg1 == qS n 0 Y3 || s.ci1 == qS n 0 Y3 || s.mc1 == qS n 0 Y3)) || s.name == n
def apv (p:Bool×Bool):V:=.tup [V.bool p.1,V.bool p.2]
def VI:=qd Proofs.Tryz.f178 []
def qi (Γ:Env) (f:Nat):Prop:=∀ (s:QC) (n:List UInt8),EvN Γ f [s.v,V.str n] (apv (acv n s))
attribute [local go_sem] QC.cells QC.v in
theorem adS {Γ:Env} {f:Nat} (h:Has Γ.P f 59 VI.1.1.ac VI.1.2) (z0:qj Γ 232) (z1:qO Γ 184) (z2:x9 Γ 233) (z3:QN Γ 182):qi Γ f:=by
 intro s n
 refine Qc h zsi (by simp only [apv,V.closed,Qb,V.noSl,Wi,and_self]) (by simp only [apv,V.closed,Qb,V.noSl,Wi,and_self]) fun C hC hm=>?_
 subst hC
 simp only [VI,qd,DC.ac]
 have hg:=(z0 s n).b
 rcases hn:yJ n (Qx s.ci1 s.ci2) s.lo s.hi with _|b
 ·have e:acv n s = ((decide (qS n 0 Y3 > 0) && decide (VB (qS n 0 Y3) 0 [s.kx1,s.sg1,s.ci1,s.mc1]≥0)) || (decide (abt n > 0) && s.code == abt n),decide (qS n 0 Y3 > 0) || decide (abt n > 0)):=by rw [acv,hn]
  rw [e]
  rw [hn] at hg
  simp only [amL,QC.v,QC.cells] at hg
  have hf:=(z3 [s.kx1,s.sg1,s.ci1,s.mc1] (qS n 0 Y3) (by simp)).b
  simp only [zE,zH] at hf
  rcases h1:decide (qS n 0 Y3 > 0) with _|_<;>rcases h2:decide (abt n > 0) with _|_<;>rcases h3:decide (VB (qS n 0 Y3) 0 [s.kx1,s.sg1,s.ci1,s.mc1]≥0) with _|_
  all_goals
   rw [h3] at hf
   (have zx:=za h1 h2);refine zgo ?_;repeat' first|exact zt|apply zan|intro hc
   all_goals (simp only [apv,ZJ,ku,zY,zK,zO,Bool.or_self,bo,Bool.or_false,Bool.false_or,ba];refine Qg _ rfl ?_;simp only [go_sem];done)
 ·have e:acv n s = (b,true):=by rw [acv,hn]
  rw [e]
  rw [hn] at hg
  simp only [amL,QC.v,QC.cells] at hg
  refine zgo ?_;repeat' first|exact zt|apply zan|intro hc
  all_goals (simp only [apv];refine Qg _ rfl ?_;simp only [go_sem];done)
theorem aoG {α:Type} (p:α→Bool):∀ (l:List α) (k:Nat),0≤ja p k l→∃ j x,l[j]? = some x∧p x = true∧ja p k l = ((k + j:Nat):Int)
 | [],k,h=>by simp [ja] at h
 | x :: r,k,h=>by
   by_cases hx:p x = true
   ·exact ⟨0,x,rfl,hx,by simp [ja,hx]⟩
   ·have e:ja p k (x :: r) = ja p (k + 1) r:=by simp [ja,hx]
    rw [e] at h ⊢
    obtain ⟨j,y,h1,h2,h3⟩:=aoG p r (k + 1) h
    exact ⟨j + 1,y,by simpa using h1,h2,by rw [h3];congr 1;omega⟩
theorem vQ (x:Int):∀ (l:List Int) (k:Nat),0≤VB x k l↔x∈l
 | [],k=>by simp [VB]
 | y :: r,k=>by
   by_cases hy:y = x
   ·subst hy;simp [VB]
   ·have:=vQ x r (k + 1)
    have e:VB x k (y :: r) = VB x (k + 1) r:=by rw [VB,if_neg (fun h=>hy h.symm)]
    rw [e,this,zw]
    exact ⟨Or.inr,fun h=>h.elim (fun h=>absurd h.symm hy) id⟩
theorem asB:∀ s∈Jd,abt s.name = s.code:=by decide
theorem amU:∀ s∈Jd,ag8 s.code = Qx s.ci1 s.ci2:=by decide
theorem aqh {s:QC} (hs:s∈Jd) (n:List UInt8):(decide (abt n > 0) && s.code == abt n) = (s.name == n):=by
 by_cases h:s.name = n
 ·subst h
  have h1:=asB s hs
  obtain ⟨k,hk,hg⟩:=kK hs
  have h2:=ao1 k hk s (by rw [zd hk,hg])
  have h3:abt s.name > 0:=by rw [h1,h2];omega
  simp [h3,h1];omega
 ·have e:(s.name == n) = false:=by simpa using h
  rw [e,ZA]
  by_cases h0:abt n > 0
  ·right
   simp only [kM,ne_eq]
   intro hc
   obtain ⟨j,x,h1,h2,h3⟩:=aoG (fun s:QC=>s.name == n) Jd 0 (by unfold abt at h0;omega)
   obtain ⟨k,hk,hg⟩:=kK hs
   have h4:=ao1 k hk s (by rw [zd hk,hg])
   have hkj:k = j:=by unfold abt at hc;omega
   subst hkj
   rw [zd hk,hg] at h1
   cases h1
   exact h (by simpa using h2)
  ·left;simpa using h0
theorem apV {n:List UInt8} (st lo hi:Int) (h:n∈aar):∃ b,yJ n st lo hi = some b:=by
 simp only [aar,zw,zD,or_false] at h
 rcases h with rfl|rfl|rfl|rfl|rfl|rfl|rfl|rfl<;>exact ⟨_,rfl⟩
theorem anh {n:List UInt8} {s:QC}:(acv n s).2 = aaW n:=by
 by_cases h:n∈aar
 ·obtain ⟨b,hb⟩:=apV (Qx s.ci1 s.ci2) s.lo s.hi h
  rw [acv,hb,aaW];simp [h]
 ·rw [acv,ajG _ _ _ h,aaW];simp [h]
theorem apK {s:QC} (hs:s∈Jd) (n:List UInt8):acu n s = (acv n s).1:=by
 have h1:=amU s hs
 have h2:=aqh hs n
 have h3:decide (VB (qS n 0 Y3) 0 [s.kx1,s.sg1,s.ci1,s.mc1]≥0) = (s.kx1 == qS n 0 Y3 || s.sg1 == qS n 0 Y3 || s.ci1 == qS n 0 Y3 || s.mc1 == qS n 0 Y3):=by
  rw [Zq]
  simp only [zC,ge_iff_le,vQ,zw,zD,or_false,kC,kx]
  constructor
  ·rintro (h|h|h|h)<;>simp [h]
  ·rintro (((h|h)|h)|h)<;>simp [h]
 rw [acu,acv,h1]
 cases yJ n (Qx s.ci1 s.ci2) s.lo s.hi with
 | some b=>rfl
 | none=>simp only [h2,h3]
def XG (c:UInt8):List UInt8→List UInt8→List (List UInt8)
 | cur,[]=>[cur]
 | cur,x :: r=>if x = c then cur :: XG c [] r else XG c (cur++[x]) r
def QK (c:UInt8) (s:List UInt8):List (List UInt8):=XG c [] s
theorem adt (c:UInt8):∀ (r cur:List UInt8),XG c cur r≠[]
 | [],cur=>by simp [XG]
 | x :: r,cur=>by
   rw [XG];split
   ·simp
   ·exact adt c r _
end Av
end
