/- W26 -/
import Derived.Test.YtlpaikjhphkioaaGreatW25
import Derived.Test.YtlpaikjhphkioaaGreatW12
import Derived.Test.YtlpaikjhphkioaaGreatW14
set_option linter.unusedVariables false
set_option linter.unusedSimpArgs false
noncomputable section
set_option maxRecDepth 10000
set_option maxHeartbeats 4000000
namespace Av
open Go
attribute [local irreducible] AWp Vy K7 jE awS awC aaG awQ abg QW Uc vZ awR Uj awB okR jt ris
structure aaI where
 kalg:Int
 kbits:Int
 kid:Int
 chain:List v7
def aaI.cells (x:aaI):List V:=[V.int x.kalg,V.int x.kbits,V.int x.kid,.sl 15 (x.chain.map v7.v)]
def aaI.v (x:aaI):V:=.agg x.cells
structure aqA where
 name:List UInt8
 least:Int
 most:Int
 suites:List Int
 own:Bool
 idents:List aaI
 anchors:List Int
 hashes:List Int
 fall:Bool
def aqA.cells (e:aqA):List V:=[V.str e.name,V.int e.least,V.int e.most,.sl 1 (e.suites.map V.int),V.bool e.own,.sl 4 (e.idents.map aaI.v),.sl 1 (e.anchors.map V.int),.sl 1 (e.hashes.map V.int),V.bool e.fall]
def aqA.v (e:aqA):V:=.agg e.cells
def aaI.ok (x:aaI):Bool:=aqH x.kalg x.kbits x.kid x.chain
def Jn:=qd Proofs.Tryz.f75 []
def JY (Γ:Env) (f:Nat):Prop:=∀ (xs:List Int) (g:Nat) (cap:List V) (p:Int→Bool) (hp:∀ x∈xs,EvN Γ g (V.int x :: cap) (V.bool (p x))) (hcap:Qc cap) (hl:xs.length < 2 ^ 62),EvN Γ f [.sl 1 (xs.map V.int),.clo g cap] (V.int (yF p 0 xs))
attribute [local go_sem] zL in
theorem Ui {Γ:Env} {f:Nat} (h:Has Γ.P f 19 Jn.1.1.ac Jn.1.2) :JY Γ f:=by
 intro xs g cap p hp hcap hl
 refine Qb h zsi zcl zcl fun C hC hm=>?_
 subst hC
 simp only [Jn,qd,DC.ac]
 have s1:∀ o,JP o cap = cap:=fun o=>Yf o cap hcap
 have s2:∀ o B,Qq o B cap = True:=fun o B=>eq_true (JK o B cap hcap)
 refine zgo ?_;repeat' first|exact zt|apply zan|intro hc
 refine Qz (ι:=Nat) (fun k=>k≤xs.length∧yF p k (xs.drop k) = yF p 0 xs) (fun k=>[(8,V.int k)]) (fun k=>xs.length - k) 0 (by omega) ⟨by simp,by simp⟩ zol (fun i hi=>by simp only [ovT,JE,Nat.reduceEqDiff,reduceIte];(repeat' first|exact ahj|refine aeq ?_ ?_|simp only [V.lt,ltL,and_self,and_true]|omega);exact Yw _ _ hcap) (by simp only [Nat.reduceAdd,ovT,JE,Nat.reduceEqDiff,reduceIte,J3,YB,adI,u32,u33,u34,u35,u36,u37,u38,u39,and_self,and_true,true_and];first|rfl|exact Q8 _ _ hcap) fun k hk K' hL=>?_
 obtain ⟨hk,hinv⟩:=hk
 simp only [ovT,JE,Nat.reduceEqDiff,reduceIte]
 rcases hd:xs.drop k with _|⟨y,r⟩
 ·have:=Qt hd
  rw [hd] at hinv
  have e1:decide ((k:Int) < (((xs.map V.int).length:Nat):Int)) = false:=by simp;omega
  (have zx:=e1);refine zgo ?_;repeat' first|exact zt|apply zan|intro hc
  refine Ql _ rfl ?_
  simp only [go_sem]
  rw [← hinv];rfl
 ·obtain ⟨hk,hget,hr⟩:=Qm hd
  rw [hd] at hinv
  have hw:=Qg (k:=k) (by omega)
  have e1:decide ((k:Int) < (((xs.map V.int).length:Nat):Int)) = true:=by simp;omega
  have hpy:=hp y (zq hget)
  by_cases hy:p y = true
  ·rw [hy] at hpy
   (have zy0:=hpy.b;have zx:=za hget (za hw (za e1 (za s1 s2))));refine zgo ?_;repeat' first|exact zt|apply zan|intro hc
   refine Ql _ rfl ?_;simp only [go_sem]
   rw [← hinv];simp [yF,hy]
  ·have hy':p y = false:=by simpa using hy
   rw [hy'] at hpy
   (have zy0:=hpy.b;have zx:=za hget (za hw (za e1 (za s1 s2))));refine zgo ?_;repeat' first|exact zt|apply zan|intro hc
   refine hL _ (k + 1) zet ⟨by omega,?_⟩ (by omega) zoe
   rw [hr,← hinv,yF,if_neg hy]
theorem aiu (p:Int→Bool):∀ (xs:List Int) (k:Nat),(yF p k xs = -1∧∀ y∈xs,p y = false)∨∃ i y,yF p k xs = ((k + i:Nat):Int)∧xs[i]? = some y∧p y = true∧∀ z∈xs.take i,p z = false
 | [],k=>.inl ⟨rfl,by simp⟩
 | x :: r,k=>by
   rw [yF]
   by_cases h:p x = true
   ·rw [if_pos h];exact .inr ⟨0,x,rfl,rfl,h,by simp⟩
   ·rw [if_neg h]
    have h2:p x = false:=by simpa using h
    rcases aiu p r (k + 1) with ⟨h3,h4⟩|⟨i,y,h3,h4,h5,h6⟩
    ·exact .inl ⟨h3,fun y hy=>by
      rcases zC.1 hy with rfl|hy
      ·exact h2
      ·exact h4 y hy⟩
    ·refine .inr ⟨i + 1,y,by rw [h3];congr 1;omega,by simpa using h4,h5,fun z hz=>?_⟩
     rw [List.take_succ_cons] at hz
     rcases zC.1 hz with rfl|hz
     ·exact h2
     ·exact h6 z hz
theorem aiB {p:Int→Bool} {xs:List Int} (h:∀ y∈xs,p y = false):xs.filter (fun x=>!p x) = xs:=by
 rw [List.filter_eq_self];intro y hy;rw [h y hy];rfl
def Jl:=qd Proofs.Tryz.f39 []
def JO (Γ:Env) (f:Nat):Prop:=∀ (xs:List Int) (g:Nat) (cap:List V) (p:Int→Bool) (hp:∀ x∈xs,EvN Γ g (V.int x :: cap) (V.bool (p x))) (hcap:Qc cap) (hl:xs.length < 2 ^ 34),EvZ Γ f [.clo g cap] 1 (xs.map V.int) ((xs.filter fun x ↦ !p x).length) ((xs.filter fun x ↦ !p x).map V.int++List.replicate (xs.length - (xs.filter fun x ↦ !p x).length) (V.int 0))
attribute [local go_sem] Jk in
theorem Ua {Γ:Env} {f:Nat} (h:Has Γ.P f 42 Jl.1.1.ac Jl.1.2) (z0:JY Γ 75):JO Γ f:=by
 intro xs g cap p hp hcap hl
 refine acr h (by simp) fun C hC hm=>?_
 subst hC
 simp only [Jl,qd,DC.ac]
 have s1:∀ o,JP o cap = cap:=fun o=>Yf o cap hcap
 have s2:∀ o B,Qq o B cap = True:=fun o B=>eq_true (JK o B cap hcap)
 have s3:∀ τ,U6 τ cap = cap:=fun τ=>Q8 τ cap hcap
 have s4:∀ n,ltL n cap:=fun n=>Yw n cap hcap
 have hlen:(xs.map V.int).length = xs.length:=zb _
 have htk:List.take xs.length (xs.map V.int) = xs.map V.int:=zl (by omega)
 have hi:=(z0 xs g cap p hp hcap (by omega)).b
 rcases aiu p xs 0 with ⟨hx,hall⟩|⟨i,y,hx,hy,hpy,hall⟩
 ·rw [aiB hall,kD]
  rw [hx] at hi
  have e1:((-1:Int) == -1) = true:=by decide
  (have zx:=za e1 (za s1 (za s2 (za hlen htk))));refine zgo ?_;repeat' first|exact zt|apply zan|intro hc
  all_goals first|(refine agk _ rfl rfl rfl ?_ ?_<;>first|rfl|(simp;done))
 rw [ky] at hx
 rw [hx] at hi
 have hil:=(zn.1 hy).1
 have e1:((i:Int) == -1) = false:=by rw [kE];omega
 have hwi:=Qg (k:=i) (by omega)
 (have zx:=za e1 (za s1 (za s2 (za hlen (za htk hwi)))));refine zgo ?_;repeat' first|exact zt|apply zan|intro hc
 refine Qp (ι:=List Int×Nat×Nat) (fun q=>q.1.length = xs.length∧q.2.1 < q.2.2∧q.2.2≤xs.length∧q.1.take q.2.1 = (xs.take q.2.2).filter (fun x=>!p x)∧q.1.drop q.2.2 = xs.drop q.2.2)
  (fun q=>Jk [(0,.hd 0 0 (xs.map V.int).length),(1,.clo g cap),(5,V.int q.2.1),(6,V.int q.2.2)] [(0,.buf true 1 (q.1.map V.int))] 1) (fun q=>xs.length - q.2.2) (xs,i,i + 1)
  ⟨rfl,by simp only;omega,by simp only;omega,?_,rfl⟩ (Qd []) (Qh [] (by simp only [go_sem,zwl,s3,s4,hlen]<;>exact zcc) zwa (by simp) (by simp) (by omega)) fun q hq K' hL=>?_
 ·dsimp only
  rw [zR,hy,ZY,aiB hall]
  simp [hpy]
 obtain ⟨B,n,j⟩:=q
 obtain ⟨hB,hnj,hj,ht,hd⟩:=hq
 dsimp only at hB hnj hj ht hd
 have hBl:(B.map V.int).length = xs.length:=by rw [zb,hB]
 have hwj:=Qg (k:=j) (by omega)
 have hwn:=Qg (k:=n) (by omega)
 by_cases hje:j = xs.length
 ·have e3:decide ((j:Int) < (xs.length:Int)) = false:=zp (by omega)
  rw [hje,zQ] at ht
  have hgl:(xs.filter fun x=>!p x).length = n:=by rw [← ht,zT,hB];omega
  rw [hgl,← ht]
  (have zx:=za e3 hlen);refine zgo ?_;repeat' first|exact zt|apply zan|intro hc
  all_goals first
   | (rw [hlen];omega)
   | omega
   | (refine agk _ rfl rfl rfl ?_ ?_<;>first|rfl|(rw [Z5 (by rw [hBl];omega),km,kp];first|done|rfl)|(simp;done))
 have e3:decide ((j:Int) < (xs.length:Int)) = true:=zo (by omega)
 obtain ⟨u,hu⟩:∃ u,xs[j]? = some u:=⟨_,zd (by omega)⟩
 have hpu:=hp u (zq hu)
 have bu:B[j]? = some u:=by
  have:(B.drop j)[0]? = (xs.drop j)[0]?:=by rw [hd]
  rw [Ze,Ze,Nat.add_zero,hu] at this
  exact this
 have vu:(B.map V.int)[j]? = some (V.int u):=by rw [zi,bu];rfl
 have hd2:B.drop (j + 1) = xs.drop (j + 1):=by rw [← Zg,← Zg,hd]
 have hset:(B.map V.int).set n (V.int u) = (B.set n u).map V.int:=Z3.symm
 have ht2:(xs.take (j + 1)).filter (fun x=>!p x) = B.take n++(if p u = true then [] else [u]):=by
  rw [zR,hu,ZY,ht]
  rcases hb0:p u with _|_<;>simp [hb0]
 rcases hb:p u with _|_
 ·rw [hb] at hpu ht2
  obtain ⟨t,bt⟩:∃ t,B[n]? = some t:=⟨_,zd (by omega)⟩
  have vt:(B.map V.int)[n]? = some (V.int t):=by rw [zi,bt];rfl
  (have zy0:=hpu.b;have zx:=za e3 (za hlen (za hwj (za hwn (za vu (za vt (za hset (za s1 s2))))))));refine zgo ?_;repeat' first|exact zt|apply zan|intro hc
  all_goals first
   | exact hL _ (B.set n u,n + 1,j + 1) (Qd []) ⟨by simp [hB],by simp only;omega,by simp only;omega,by
      dsimp only
      rw [ht2,zR,ZE (by omega),List.take_set_of_le (by omega)];rfl,by
      dsimp only
      rw [List.drop_set_of_lt (by omega)];exact hd2⟩ (by simp only;omega) (Qh [] (by simp only [go_sem,zwl,s3,s4,hlen]<;>exact zcc) zwa (by simp) (by simp) (by omega))
 ·rw [hb] at hpu ht2
  (have zy0:=hpu.b;have zx:=za e3 (za hlen (za hwj (za hwn (za vu (za s1 s2))))));refine zgo ?_;repeat' first|exact zt|apply zan|intro hc
  all_goals first
   | exact hL _ (B,n,j + 1) (Qd []) ⟨hB,by simp only;omega,by simp only;omega,by dsimp only;rw [ht2];simp,hd2⟩ (by simp only;omega) (Qh [] (by simp only [go_sem,zwl,s3,s4,hlen]<;>exact zcc) zwa (by simp) (by simp) (by omega))
def Yq:=qd Proofs.Tryz.f40 []
def Xg (Γ:Env) (f:Nat):Prop:=∀ (x i:Int),EvN Γ f [V.int x,.ro [V.int i] 0] (V.bool (x == i))
theorem jV {Γ:Env} {f:Nat} (h:Has Γ.P f 7 Yq.1.1.ac Yq.1.2) :Xg Γ f:=by
 intro x i
 refine Qb h zsi zcl zcl fun C hC hm=>?_
 subst hC
 simp only [Yq,qd,DC.ac]
 exact zg
def aoP (l:List Qa) (gap day age:Int) (f:Qe) (fs:List Nat):Bool:=decide (J0 (Jc l fs) gap = 0) && qF (Jc l fs) gap day age f
def WE (i:Nat) (fs:List Nat):List Nat:=fs.filter fun x=>!(x == i)
def xO (h:List Nat→Bool):List Nat→List Nat→Bool→List Nat×Bool
 | [],fs,b=>(fs,b)
 | i :: r,fs,b=>if h (WE i fs) = true then xO h r (WE i fs) true else xO h r fs b
def alv (h:List Nat→Bool):Nat→List Nat→List Nat
 | 0,fs=>fs
 | n + 1,fs=>if (xO h fs fs false).2 = true then alv h n (xO h fs fs false).1 else (xO h fs fs false).1
theorem amI (i:Nat) (fs:List Nat):(WE i fs).length≤fs.length:=Zb ..
theorem aoL {i:Nat} {fs:List Nat} (h:i∈fs):(WE i fs).length < fs.length:=by
 rw [WE,List.length_filter_lt_length_iff_exists]
 exact ⟨i,h,by simp⟩
theorem aij (i:Nat) (fs:List Nat):(WE i fs).Sublist fs:=List.filter_sublist
theorem aek {h:List Nat→Bool}:∀ (r fs:List Nat) (b:Bool),(xO h r fs b).1.Sublist fs
 | [],fs,b=>List.Sublist.refl _
 | i :: r,fs,b=>by
   rw [xO]
   split
   ·exact (aek r _ _).trans (aij i fs)
   ·exact aek r _ _
theorem akA {h:List Nat→Bool}:∀ (r fs:List Nat),r.Nodup→(∀ i∈r,i∈fs)→(xO h r fs false).2 = true→(xO h r fs false).1.length < fs.length
 | [],fs,_,_,hb=>by cases hb
 | i :: r,fs,hn,hs,hb=>by
   rw [xO] at hb ⊢
   split
   ·exact Nat.lt_of_le_of_lt (aek r _ _).length_le (aoL (hs i kQ))
   ·rename_i hh
    rw [if_neg hh] at hb
    exact akA r fs (bg.1 hn).2 (fun j hj=>hs j (kR _ hj)) hb
def amZ (l:List Qa) (gap day age:Int) (f:Qe):List Nat:=alv (aoP l gap day age f) (l.length + 1) (List.range l.length)
def alu (l:List Qa) (gap day age:Int) (f:Qe):V :=
 if Yk l gap day age = 0 then (if qF l gap day age f = true then .tup [.sl 1 (Qv (amZ l gap day age f)),V.int 0] else .tup [.sl 1 [],V.int 4]) else .tup [.sl 1 [],V.int (Yk l gap day age)]
def zrs (z:Nat):List V:=List.replicate z (V.int 0)
theorem aiY (z:Nat):Qc (zrs z):=by
 induction z with
 | zero=>trivial
 | succ z ih=>exact ⟨trivial,ih⟩
def lfc (fs:List Nat) (z:Nat):List V:=Qv fs++zrs z
theorem adU (fs:List Nat) (z:Nat):Qc (lfc fs z):=by
 rw [lfc]
 induction fs with
 | nil=>exact aiY z
 | cons i r ih=>exact ⟨by simp only [V.closed],ih⟩
theorem vF (σ:Nat→Nat) (fs:List Nat) (z:Nat):U6 σ (lfc fs z) = lfc fs z:=Q8 _ _ (adU fs z)
theorem adT (n:Nat) (fs:List Nat) (z:Nat):ltL n (lfc fs z):=Yw _ _ (adU fs z)
theorem amG (fs:List Nat):lfc fs 0 = Qv fs:=km _
theorem aes (fs:List Nat) (z:Nat):(lfc fs z).take fs.length = Qv fs:=by
 rw [lfc,List.take_append_of_le_length (by rw [Jr];exact zh _),zl (by rw [Jr];exact zh _)]
theorem ahl (fs:List Nat) (z:Nat):(lfc fs z).length = fs.length + z:=by simp [lfc,zrs,Qv]
theorem amH (i:Nat) (fs:List Nat):((fs.map fun n:Nat=>(n:Int)).filter fun x=>!(x == (i:Int))) = (WE i fs).map fun n:Nat=>(n:Int):=by
 rw [WE,List.filter_map]
 congr 1
 apply List.filter_congr
 intro x _
 simp only [Function.comp]
 congr 1
 rw [Zv]
 simp
 omega
theorem alK {l:List Qa} {fs:List Nat} (h:∀ x∈l,x.Sz):∀ x∈Jc l fs,x.Sz:=fun x hx=>by
 rw [Jc,ZX] at hx
 obtain ⟨i,_,hi⟩:=hx
 exact h x (zq hi)
def exT (l:List Qa) (gap day age:Int):List (Nat×V):=[(0,.sl 11 (l.map Qa.v)),(1,V.int gap),(2,V.int day),(3,V.int age),(9,.ptr 0 0)]
def alw (l:List Qa) (gap day age:Int) (f:Qe) (k:Nat):St:=Jk (exT l gap day age++[(14,.hd 1 0 k),(39,V.int l.length),(40,V.int k)]) [(0,.box true f.cells),(1,.buf true 1 (Qv (List.range k)))] 2
def ahz (l:List Qa) (gap day age:Int) (f:Qe) (fs:List Nat) (z:Nat) (b:Bool):St:=Jk (exT l gap day age++[(14,.hd 1 0 fs.length),(16,V.bool b)]) [(0,.box true f.cells),(1,.buf true 1 (lfc fs z))] 2
def aeA (l:List Qa) (gap day age:Int) (f:Qe) (fs gs:List Nat) (z:Nat) (b:Bool) (k:Nat):St:=Jk (exT l gap day age++[(14,.hd 1 0 gs.length),(16,V.bool b),(50,.hd 2 0 fs.length),(51,V.int fs.length),(52,V.int k)]) [(0,.box true f.cells),(1,.buf true 1 (lfc gs z)),(2,.buf true 1 (Qv fs))] 3
def Y3:=qd Proofs.Tryz.f18 [zhn 13]
def Wu (Γ:Env) (f:Nat):Prop:=∀ (l:List Qa) (gap day age:Int) (f0:Qe) (hl:l.length < 2 ^ 30) (hz:∀ x∈l,x.Sz),EvC Γ f [.sl 11 (l.map Qa.v),V.int gap,V.int day,V.int age,f0.v] (alu l gap day age f0)
attribute [local go_sem] Jk in
theorem xj {Γ:Env} {f:Nat} (h:Has Γ.P f 79 Y3.1.1.ac Y3.1.2) (z0:XN Γ 16) (z1:JM Γ 38) (z3:Xg Γ 40) (z4:JO Γ 39) (z5:Vu Γ 41):Wu Γ f:=by
 intro l gap day age f0 hl hz
 refine Jt h zsi (by unfold alu;(repeat' split)<;>simp only [V.closed,Qc,and_self]) fun C hC hm=>?_
 subst hC
 simp only [Y3,qd,DC.ac]
 have g0:=(z0 l gap day age f0 hl hz).b
 simp only [Qe.v,Qe.cells] at g0 ⊢
 by_cases hE:Yk l gap day age = 0
 rotate_left
 ·rw [alu,if_neg hE]
  rw [xU,if_neg hE] at g0
  have e01:(Yk l gap day age != 0) = true:=by simpa using hE
  generalize Yk l gap day age = er at *
  (have zx:=e01);exact zg
 rw [alu,if_pos hE]
 have hkE:∀ l':List Qa,Yk l' gap day age = J0 l' gap:=fun l'=>amK (vG.1 hE).rng
 rw [xU,if_pos hE] at g0
 have e00:((0:Int) != 0) = false:=by decide
 rcases hH:qF l gap day age f0 with _|_
 ·rw [if_neg (by decide)]
  rw [hH] at g0
  (have zx:=e00);exact zg
 rw [if_pos rfl]
 rw [hH] at g0
 have hgv:(l.map Qa.v).length = l.length:=zb _
 (have zx:=za e00 hgv);refine zgo ?_;repeat' first|exact zt|apply zan|intro hc
 refine Qp (ι:=Nat) (fun k=>k≤l.length) (fun k=>alw l gap day age f0 k) (fun k=>l.length - k) 0 (zG _) (Qd [(1,20000)]) (Qh [(1,20000)] (by simp only [go_sem,zwl,alw,exT,List.cons_append,List.nil_append]<;>exact zcc) (by simp only [go_sem,zwl,alw,exT,Qe.cells,Qu,QJ]<;>exact zcc) (by simp [alw,Qd]) (by simp [alw];omega) (by omega)) fun k hk K' hL=>?_
 rcases kI k l.length with hk'|hkl
 ·have hw:=Qg (k:=k) (by omega)
  have e1:decide ((k:Int) < (l.length:Int)) = true:=zo (by omega)
  have hjn:=ac7 k
  have hol:(Qv (List.range k)).length = k:=by rw [Jr,Zy]
  have htl:List.take k (Qv (List.range k)) = Qv (List.range k):=zl (by omega)
  simp only [alw,exT,Qe.cells,List.cons_append,List.nil_append]
  (have zx:=za e1 (za hw (za hjn (za hol htl))));refine zgo ?_;repeat' first|exact zt|apply zan|intro hc
  all_goals exact hL _ (k + 1) (Qd [(1,6002)]) (by omega) (by omega) (Qh [(1,6002)] (by simp only [go_sem,zwl,alw,exT,List.cons_append,List.nil_append]<;>exact zcc) (by simp only [go_sem,zwl,alw,exT,Qe.cells,Qu,QJ]<;>exact zcc) (by simp [alw,Qd]) (by simp [alw];omega) (by omega))
 obtain rfl:k = l.length:=by omega
 clear hL
 have e1:decide ((l.length:Int) < (l.length:Int)) = false:=by simp
 simp only [alw,exT,Qe.cells,List.cons_append,List.nil_append]
 (have zx:=e1);refine zgo ?_;repeat' first|exact zt|apply zan|intro hc
 have hrl:(List.range l.length).length = l.length:=Zy
 have hz0:=amG (List.range l.length)
 generalize hhh:aoP l gap day age f0 = hh at *
 generalize hfin:alv hh (l.length + 1) (List.range l.length) = fin at *
 have hfo:amZ l gap day age f0 = fin:=by rw [amZ,hhh,hfin]
 rw [hfo]
 refine Qp (ι:=List Nat×Nat×Bool×Nat) (fun q=>q.1.Sublist (List.range l.length)∧if q.2.2.1 = true then q.1.length < q.2.2.2∧alv hh q.2.2.2 q.1 = fin else q.1 = fin) (fun q=>ahz l gap day age f0 q.1 q.2.1 q.2.2.1) (fun q=>if q.2.2.1 = true then q.2.2.2 else 0) (List.range l.length,0,true,l.length + 1) ⟨List.Sublist.refl _,by dsimp only;rw [if_pos rfl];exact ⟨by omega,hfin⟩⟩ (Qd []) (Qh [] (by simp only [go_sem,zwl,ahz,exT,hrl,List.cons_append,List.nil_append]<;>exact zcc) (by simp only [go_sem,zwl,ahz,exT,hz0,Qe.cells,Qu,QJ]<;>exact zcc) (by simp [ahz,Qd]) (by simp [ahz]) (by omega)) fun q hq K' hL=>?_
 obtain ⟨fs,z,b,n⟩:=q
 obtain ⟨hsb,hif⟩:=hq
 dsimp only at hsb hif
 have hfl:=hsb.length_le
 rw [hrl] at hfl
 have hft:=aes fs z
 have hll:=ahl fs z
 have hmem:∀ gs:List Nat,gs.Sublist fs→∀ i∈gs,i < l.length:=fun gs h1 i h2=>Zh.1 (hsb.subset (h1.subset h2))
 rcases b with _|_
 ·rw [if_neg (by decide)] at hif
  subst hif
  simp only [ahz,exT,Qe.cells,List.cons_append,List.nil_append]
  (have zx:=hft);refine zgo ?_;repeat' first|exact zt|apply zan|intro hc
  all_goals (refine Ql _ rfl ?_;simp only [go_sem];rw [hft];done)
 rw [if_pos rfl] at hif
 obtain ⟨hn,hex⟩:=hif
 obtain ⟨n,rfl⟩:∃ m,n = m + 1:=⟨n - 1,by omega⟩
 rw [alv] at hex
 have gC:=z1 (fs.map fun n:Nat=>(n:Int)) (by rw [zb];omega)
 simp only [abM] at gC
 have hpl:(Qv fs).length = fs.length:=Jr fs
 simp only [ahz,exT,Qe.cells,List.cons_append,List.nil_append]
 (have zx:=za hft hpl);refine zgo ?_;repeat' first|exact zt|apply zan|intro hc
 refine Qp (ι:=List Nat×Nat×Bool×Nat) (fun q=>q.2.2.2≤fs.length∧q.1.Sublist fs∧xO hh (fs.drop q.2.2.2) q.1 q.2.2.1 = xO hh fs fs false) (fun q=>aeA l gap day age f0 fs q.1 q.2.1 q.2.2.1 q.2.2.2) (fun q=>fs.length - q.2.2.2) (fs,z,false,0) ⟨zG _,List.Sublist.refl _,by rw [kK]⟩ (Qd [(2,3002)]) (Qh [(2,3002)] (by simp only [go_sem,zwl,aeA,exT,List.cons_append,List.nil_append]<;>exact zcc) (by simp only [go_sem,zwl,aeA,exT,Qe.cells,vF,adT,Qu,QJ]<;>exact zcc) (by simp [aeA,Qd]) (by simp [aeA];omega) (by omega)) fun q hq K2 hL2=>?_
 obtain ⟨gs,z2,b2,k⟩:=q
 obtain ⟨hk,hgs,hps⟩:=hq
 dsimp only at hk hgs hps
 have hgl:=hgs.length_le
 have hft2:=aes gs z2
 have hll2:=ahl gs z2
 rcases hdr:fs.drop k with _|⟨i,r⟩
 ·have hkl:=Qt hdr
  have e2:decide ((k:Int) < (fs.length:Int)) = false:=zp (by omega)
  rw [hdr,xO] at hps
  have hlt:=akA (h:=hh) fs fs (List.nodup_range.sublist hsb) (fun i hi=>hi)
  rw [← hps] at hex hlt
  dsimp only at hex hlt
  simp only [aeA,exT,Qe.cells,List.cons_append,List.nil_append]
  rcases b2 with _|_
  ·rw [if_neg (by decide)] at hex
   (have zx:=e2);refine zgo ?_;repeat' first|exact zt|apply zan|intro hc
   all_goals exact hL _ (gs,z2,false,0) (Qd []) ⟨hgs.trans hsb,by dsimp only;rw [if_neg (by decide)];exact hex⟩ (by simp) (Qh [] (by simp only [go_sem,zwl,ahz,exT,List.cons_append,List.nil_append]<;>exact zcc) (by simp only [go_sem,zwl,ahz,exT,Qe.cells,vF,adT]<;>exact zcc) (by simp [ahz,Qd]) (by simp [ahz]) (by omega))
  ·rw [if_pos rfl] at hex
   have hlt2:=hlt rfl
   (have zx:=e2);refine zgo ?_;repeat' first|exact zt|apply zan|intro hc
   all_goals exact hL _ (gs,z2,true,n) (Qd []) ⟨hgs.trans hsb,by dsimp only;rw [if_pos rfl];exact ⟨by omega,hex⟩⟩ (by simp) (Qh [] (by simp only [go_sem,zwl,ahz,exT,List.cons_append,List.nil_append]<;>exact zcc) (by simp only [go_sem,zwl,ahz,exT,Qe.cells,vF,adT]<;>exact zcc) (by simp [ahz,Qd]) (by simp [ahz]) (by omega))
 obtain ⟨hk',hget,hr⟩:=Qm hdr
 have hw:=Qg (k:=k) (by omega)
 have e2:decide ((k:Int) < (fs.length:Int)) = true:=zo (by omega)
 have vi:=J6 hget
 have gC2:=z1 (gs.map fun n:Nat=>(n:Int)) (by rw [zb];omega)
 have gZ:=z4 (gs.map fun n:Nat=>(n:Int)) 40 [.ro [V.int (i:Int)] 0] (fun x=>x == (i:Int)) (fun x _=>z3 x i) (by simp only [V.closed,Qc,and_self]) (by rw [zb];omega)
 have hlf:Qv (WE i gs)++List.replicate (gs.length - (WE i gs).length) (V.int 0) = lfc (WE i gs) (gs.length - (WE i gs).length):=rfl
 simp only [abM,amH,zb,hlf] at gC2 gZ
 have hls:=aij i gs
 have hle:=amI i gs
 have hft3:=aes (WE i gs) (gs.length - (WE i gs).length)
 have hll3:=ahl (WE i gs) (gs.length - (WE i gs).length)
 have hcb:=hmem (WE i gs) (hls.trans hgs)
 have hcl:=vX hcb
 have p1:=z5 l (WE i gs) hcb (by omega)
 have hct:List.take (Jc l (WE i gs)).length ((Jc l (WE i gs)).map Qa.v) = (Jc l (WE i gs)).map Qa.v:=zl (by simp)
 have hcm:((Jc l (WE i gs)).map Qa.v).length = (Jc l (WE i gs)).length:=zb _
 have p2:=(z0 (Jc l (WE i gs)) gap day age f0 (by omega) (alK hz)).b
 simp only [Qe.v,Qe.cells] at p2
 have hh1:hh (WE i gs) = (decide (J0 (Jc l (WE i gs)) gap = 0) && qF (Jc l (WE i gs)) gap day age f0):=by rw [← hhh,aoP]
 rw [hdr,xO,hh1,← hr] at hps
 clear hh1
 have hgp:(Qv gs).length = gs.length:=Jr gs
 simp only [aeA,exT,Qe.cells,List.cons_append,List.nil_append]
 rw [xU,hkE] at p2
 generalize WE i gs = ls at *
 by_cases h1:J0 (Jc l ls) gap = 0
 ·rw [if_pos h1] at p2
  rw [zo h1,zH] at hps
  have e3:((0:Int) == 0) = true:=by decide
  rcases h2:qF (Jc l ls) gap day age f0 with _|_
  ·rw [h2,if_neg (by decide)] at hps
   rw [h2] at p2
   repeat' (first|(refine zsk ?_;intro K' hK)|(refine zrg ?_;intro K' hK)|refine zsp ?_|(refine zsc ?_ ?_<;>intro hc<;>first|exact znh|try simp only [znz] at hc)|simp (maxSteps:=1000000) only [go_sem,Jk,e2,e3,hw,vi,hft2,hft3,hgp,hct,hcm,Int.toNat_natCast]|(refine hK _ ?_;clear hK K')|apply zan|(apply ahO;(focus exact rfl);(focus first|exact gZ);(focus exact rfl);(focus (first|exact rfl|(simp;done)|omega|(simp only [zb];omega)));(focus exact rfl);(focus first|exact rfl|decide);(focus (simp only [V.closed,Qc,and_self])))|((first|apply wJ|apply j8);(focus first|exact gC2|exact p1|exact (z1 _ zsd)))|(apply agE;(focus exact rfl);(focus first|exact (z4 _ _ _ _ zsd zsd zsd));(focus exact rfl);(focus (first|(simp;done)|omega|(simp only [zb];omega))))|((first|apply Qr|apply Qy);(focus first|exact p2|exact (z3 _ _).b))|exact zsq|fail)
   all_goals exact hL2 _ (gs,z2,b2,k + 1) (Qd []) ⟨by simp only;omega,hgs,hps⟩ (by simp only;omega) (Qh [] (by simp only [go_sem,zwl,aeA,exT,List.cons_append,List.nil_append]<;>exact zcc) (by simp only [go_sem,zwl,aeA,exT,Qe.cells,vF,adT,Qu,QJ]<;>exact zcc) (by simp [aeA,Qd]) (by simp [aeA]) (by omega))
  ·rw [h2,if_pos rfl] at hps
   rw [h2] at p2
   repeat' (first|(refine zsk ?_;intro K' hK)|(refine zrg ?_;intro K' hK)|refine zsp ?_|(refine zsc ?_ ?_<;>intro hc<;>first|exact znh|try simp only [znz] at hc)|simp (maxSteps:=1000000) only [go_sem,Jk,e2,e3,hw,vi,hft2,hft3,hgp,hct,hcm,Int.toNat_natCast]|(refine hK _ ?_;clear hK K')|apply zan|(apply ahO;(focus exact rfl);(focus first|exact gZ);(focus exact rfl);(focus (first|exact rfl|(simp;done)|omega|(simp only [zb];omega)));(focus exact rfl);(focus first|exact rfl|decide);(focus (simp only [V.closed,Qc,and_self])))|((first|apply wJ|apply j8);(focus first|exact gC2|exact p1|exact (z1 _ zsd)))|(apply agE;(focus exact rfl);(focus first|exact (z4 _ _ _ _ zsd zsd zsd));(focus exact rfl);(focus (first|(simp;done)|omega|(simp only [zb];omega))))|((first|apply Qr|apply Qy);(focus first|exact p2|exact (z3 _ _).b))|exact zsq|fail)
   all_goals exact hL2 _ (ls,gs.length - ls.length,true,k + 1) (Qd [(1,6003)]) ⟨by simp only;omega,hls.trans hgs,hps⟩ (by simp only;omega) (Qh [(1,6003)] (by simp only [go_sem,zwl,aeA,exT,List.cons_append,List.nil_append]<;>exact zcc) (by simp only [go_sem,zwl,aeA,exT,Qe.cells,vF,adT,Qu,QJ]<;>exact zcc) (by simp [aeA,Qd]) (by simp [aeA];omega) (by omega))
 ·rw [if_neg h1] at p2
  rw [zp h1,zE,if_neg (by decide)] at hps
  have e3:(J0 (Jc l ls) gap == 0) = false:=by rw [kE];exact h1
  repeat' (first|(refine zsk ?_;intro K' hK)|(refine zrg ?_;intro K' hK)|refine zsp ?_|(refine zsc ?_ ?_<;>intro hc<;>first|exact znh|try simp only [znz] at hc)|simp (maxSteps:=1000000) only [go_sem,Jk,e2,e3,hw,vi,hft2,hft3,hgp,hct,hcm,Int.toNat_natCast]|(refine hK _ ?_;clear hK K')|apply zan|(apply ahO;(focus exact rfl);(focus first|exact gZ);(focus exact rfl);(focus (first|exact rfl|(simp;done)|omega|(simp only [zb];omega)));(focus exact rfl);(focus first|exact rfl|decide);(focus (simp only [V.closed,Qc,and_self])))|((first|apply wJ|apply j8);(focus first|exact gC2|exact p1|exact (z1 _ zsd)))|(apply agE;(focus exact rfl);(focus first|exact (z4 _ _ _ _ zsd zsd zsd));(focus exact rfl);(focus (first|(simp;done)|omega|(simp only [zb];omega))))|((first|apply Qr|apply Qy);(focus first|exact p2|exact (z3 _ _).b))|exact zsq|fail)
  all_goals exact hL2 _ (gs,z2,b2,k + 1) (Qd []) ⟨by simp only;omega,hgs,hps⟩ (by simp only;omega) (Qh [] (by simp only [go_sem,zwl,aeA,exT,List.cons_append,List.nil_append]<;>exact zcc) (by simp only [go_sem,zwl,aeA,exT,Qe.cells,vF,adT,Qu,QJ]<;>exact zcc) (by simp [aeA,Qd]) (by simp [aeA]) (by omega))
def afj (ls:List (List Qe)) (k:Nat):Nat:=(ls.take k).flatten.length
theorem afr {ls:List (List Qe)} {k:Nat} {f:List Qe} (h:ls[k]? = some f):afj ls (k + 1) = afj ls k + f.length:=by
 simp [afj,zR,h]
theorem agU (ls:List (List Qe)) (k:Nat):afj ls k≤ls.flatten.length:=by
 have h:ls.flatten = (ls.take k).flatten++(ls.drop k).flatten:=by rw [← List.flatten_append,Zs]
 rw [afj,h,zv];omega
def ccS (ls:List (List Qe)) (k:Nat):St:=Jk [(6,.hd 0 0 (afj ls k)),(25,.sl 1 (ls.map fcv)),(26,V.int ls.length),(27,V.int k)] [(0,.buf true 8 ((ls.take k).flatten.map Qe.v))] 1
def Yc (Γ:Env) (f:Nat):Prop:=∀ (n:Nat) (hn:n < 2 ^ 30),EvW Γ f [.sc (.slice none 0 0),V.int n] 8 ([]:List V)
def QV:=qd Proofs.Tryz.f31 []
def Jj (Γ:Env) (f:Nat):Prop:=∀ (ls:List (List Qe)) (hn:ls.length < 2 ^ 30) (ht:ls.flatten.length < 2 ^ 30),EvW Γ f [.sl 1 (ls.map fcv)] 8 (ls.flatten.map Qe.v)
attribute [local go_sem] Jk in
theorem XX {Γ:Env} {f:Nat} (h:Has Γ.P f 36 QV.1.1.ac QV.1.2) (z0:Yc Γ 65):Jj Γ f:=by
 intro ls hn ht
 refine Xc h (by simp) (by first|exact ab2 _|exact abB _|(intro x hx;obtain ⟨y,_,rfl⟩:=zD.1 hx;simp only [Qe.v,Qe.cells,V.noSl,UB,and_self])) fun C hC hm=>?_
 subst hC
 simp only [QV,qd,DC.ac]
 have hal:(ls.map fcv).length = ls.length:=zb _
 (have zx:=hal);refine zgo ?_;repeat' first|exact zt|apply zan|intro hc
 refine Qz (ι:=Nat) (fun k=>k≤ls.length) (fun k=>[(3,V.int (afj ls k)),(11,V.int k)]) (fun k=>ls.length - k) 0 (by omega) (zG _) zol zlt (by simp only [Nat.reduceAdd,ovT,JE,Nat.reduceEqDiff,reduceIte,J3,YB,adI,u32,u33,u34,u35,u36,u37,u38,u39,and_self,and_true,true_and];simp [afj]) fun k hk K' hL=>?_
 simp only [ovT,JE,Nat.reduceEqDiff,reduceIte]
 rcases hdr:ls.drop k with _|⟨f,r⟩
 rotate_left
 ·obtain ⟨hk',hget,hr⟩:=Qm hdr
  have hw:=Qg (k:=k) (by omega)
  have e1:decide ((k:Int) < (ls.length:Int)) = true:=by simp;omega
  have vf:(ls.map fcv)[k]? = some (.sl 8 (f.map Qe.v)):=by rw [zi,hget];rfl
  have hfl:(f.map Qe.v).length = f.length:=zb _
  have hsu:=afr hget
  have hle:=agU ls (k + 1)
  have hw2:IntKind.i64.wrap (((afj ls k:Nat):Int) + ((f.length:Nat):Int)) = ((afj ls (k + 1):Nat):Int):=by rw [QP (by omega) (by omega),hsu];simp
  have e2:decide (((afj ls (k + 1):Nat):Int) < 0) = false:=by simp
  (have zx:=za e1 (za e2 (za hal (za hw (za hw2 (za vf hfl))))));refine zgo ?_;repeat' first|exact zt|apply zan|intro hc
  all_goals exact hL _ (k + 1) zet (by omega) (by omega) zoe
 have hkl:=Qt hdr
 have e1:decide ((k:Int) < (ls.length:Int)) = false:=by simp;omega
 obtain rfl:k = ls.length:=by omega
 have htt:afj ls ls.length = ls.flatten.length:=by rw [afj,zQ]
 have gW:=z0 (afj ls ls.length) (by omega)
 clear hL
 (have zx:=za e1 hal);refine zgo ?_;repeat' first|exact zt|apply zan|intro hc
 refine Qp (ι:=Nat) (fun k=>k≤ls.length) (fun k=>ccS ls k) (fun k=>ls.length - k) 0 (zG _) (Qd [(0,7000)]) (Qh [(0,7000)] (by simp only [go_sem,zwl,ccS,afj,List.take_zero,List.flatten_nil,List.length_nil,hal]<;>exact zcc) (by simp only [go_sem,zwl,ccS,List.take_zero,List.flatten_nil,zL]<;>exact zcc) (by simp [ccS,Qd]) (by simp [ccS];omega) (by omega)) fun k hk K' hL=>?_
 rcases hdr:ls.drop k with _|⟨f,r⟩
 ·have hkl:=Qt hdr
  have e1:decide ((k:Int) < (ls.length:Int)) = false:=by simp;omega
  obtain rfl:k = ls.length:=by omega
  have htk:ls.take ls.length = ls:=zQ
  simp only [ccS,htk,htt]
  have htl:List.take ls.flatten.length (ls.flatten.map Qe.v) = ls.flatten.map Qe.v:=zl (by rw [zb];exact zh _)
  have hmm:ls.flatten.length = (ls.flatten.map Qe.v).length:=(zb _).symm
  (have zx:=za e1 htl);refine zgo ?_;repeat' first|exact zt|apply zan|intro hc
  all_goals first|(refine qH (xs:=ls.flatten.map Qe.v) _ _ rfl ?_ ?_<;>first|exact hmm|exact hmm.symm|rfl|(simp;done))
 obtain ⟨hk',hget,hr⟩:=Qm hdr
 have hw:=Qg (k:=k) (by omega)
 have e1:decide ((k:Int) < (ls.length:Int)) = true:=by simp;omega
 have vf:(ls.map fcv)[k]? = some (.sl 8 (f.map Qe.v)):=by rw [zi,hget];rfl
 have hfl:(f.map Qe.v).length = f.length:=zb _
 have hsu:=afr hget
 have hle:=agU ls (k + 1)
 have hnx:(ls.take (k + 1)).flatten = (ls.take k).flatten++f:=by simp [zR,hget]
 have hol:((ls.take k).flatten.map Qe.v).length = afj ls k:=by rw [zb];rfl
 have htl:List.take (afj ls k) ((ls.take k).flatten.map Qe.v) = (ls.take k).flatten.map Qe.v:=zl (by omega)
 have hcl:∀ y∈f.map Qe.v,y.cells.length = 8:=by intro y hy;obtain ⟨z,_,rfl⟩:=zD.1 hy;rfl
 simp only [ccS]
 (have zx:=za e1 (za hw (za vf (za hfl (za hol htl)))));refine zgo ?_;repeat' first|exact zt|apply zan|intro hc
 all_goals exact hL _ (k + 1) (Qd [(0,6001)]) (by omega) (by omega) (Qh [(0,6001)] (by simp only [go_sem,zwl,ccS,hsu,hal]<;>exact zcc) (by simp only [go_sem,zwl,ccS,hnx,kz]<;>exact zcc) (by simp [ccS,Qd]) (by simp [ccS];omega) (by omega))
structure Qj where
 allow:Bool
 alg:Int
 below:Int
 purp:Int
 frm:Int
 til:Int
def Qj.cells (r:Qj):List V:=[V.bool r.allow,V.int r.alg,V.int r.below,V.int r.purp,V.int r.frm,V.int r.til]
abbrev Qj.v (r:Qj):V:=.agg r.cells
theorem Qj.cells_closed (r:Qj):Qc r.cells:=by simp only [Qj.cells,V.closed,Qc,and_self]
end Av
end
