/- K27 -/
import Derived.Test.YtlpaikjhphkioaaGreatK26
import Derived.Test.YtlpaikjhphkioaaGreatK25
import Derived.Test.YtlpaikjhphkioaaGreatK12
import Derived.Test.YtlpaikjhphkioaaGreatK14
set_option linter.unusedVariables false
set_option linter.unusedSimpArgs false
noncomputable section
set_option maxRecDepth 10000
set_option maxHeartbeats 4000000
namespace Av
open Go
attribute [local irreducible] AWp Uv qW xf awS awC abB awQ acd QZ UL aa2 awR Kc awB okR yu ris
structure acg where
 kalg:Int
 kbits:Int
 kid:Int
 chain:List abD
def acg.cells (x:acg):List V:=[V.int x.kalg,V.int x.kbits,V.int x.kid,.sl 15 (x.chain.map abD.v)]
def acg.v (x:acg):V:=.agg x.cells
structure asP where
 name:List UInt8
 least:Int
 most:Int
 suites:List Int
 own:Bool
 idents:List acg
 anchors:List Int
 hashes:List Int
 fall:Bool
def asP.cells (e:asP):List V:=[V.str e.name,V.int e.least,V.int e.most,.sl 1 (e.suites.map V.int),V.bool e.own,.sl 4 (e.idents.map acg.v),.sl 1 (e.anchors.map V.int),.sl 1 (e.hashes.map V.int),V.bool e.fall]
def asP.v (e:asP):V:=.agg e.cells
def acg.ok (x:acg):Bool:=asV x.kalg x.kbits x.kid x.chain
def JH:=qd Proofs.Tryz.f75 []
def Yu (Γ:Env) (f:Nat):Prop:=∀ (xs:List Int) (g:Nat) (cap:List V) (p:Int→Bool) (hp:∀ x∈xs,EvN Γ g (V.int x :: cap) (V.bool (p x))) (hcap:Qd cap) (hl:xs.length < 2 ^ 62),EvN Γ f [.sl 1 (xs.map V.int),.clo g cap] (V.int (wG p 0 xs))
attribute [local go_sem] zK in
theorem Kh {Γ:Env} {f:Nat} (h:Has Γ.P f 19 JH.1.1.ac JH.1.2) :Yu Γ f:=by
 intro xs g cap p hp hcap hl
 refine Qb h zsi zcl zcl fun C hC hm=>?_
 subst hC
 simp only [JH,qd,DC.ac]
 have s1:∀ o,Yk o cap = cap:=fun o=>YR o cap hcap
 have s2:∀ o B,Qu o B cap = True:=fun o B=>eq_true (Ye o B cap hcap)
 refine zgo ?_;repeat' first|exact zt|apply zan|intro hc
 refine Qx (ι:=Nat) (fun k=>k≤xs.length∧wG p k (xs.drop k) = wG p 0 xs) (fun k=>[(8,V.int k)]) (fun k=>xs.length - k) 0 (by omega) ⟨by simp,by simp⟩ zol (fun i hi=>by simp only [ovT,JQ,Nat.reduceEqDiff,reduceIte];(repeat' first|exact ajc|refine af3 ?_ ?_|simp only [V.lt,ltL,and_self,and_true]|omega);exact Y9 _ _ hcap) (by simp only [Nat.reduceAdd,ovT,JQ,Nat.reduceEqDiff,reduceIte,Yy,Xg,afl,u32,u33,u34,u35,u36,u37,u38,u39,and_self,and_true,true_and];first|rfl|exact Q8 _ _ hcap) fun k hk K' hL=>?_
 obtain ⟨hk,hinv⟩:=hk
 simp only [ovT,JQ,Nat.reduceEqDiff,reduceIte]
 rcases hd:xs.drop k with _|⟨y,r⟩
 ·have:=Qs hd
  rw [hd] at hinv
  have e1:decide ((k:Int) < (((xs.map V.int).length:Nat):Int)) = false:=by simp;omega
  (have zx:=e1);refine zgo ?_;repeat' first|exact zt|apply zan|intro hc
  refine Qk _ rfl ?_
  simp only [go_sem]
  rw [← hinv];rfl
 ·obtain ⟨hk,hget,hr⟩:=Ql hd
  rw [hd] at hinv
  have hw:=Qf (k:=k) (by omega)
  have e1:decide ((k:Int) < (((xs.map V.int).length:Nat):Int)) = true:=by simp;omega
  have hpy:=hp y (zu hget)
  by_cases hy:p y = true
  ·rw [hy] at hpy
   (have zy0:=hpy.b;have zx:=za hget (za hw (za e1 (za s1 s2))));refine zgo ?_;repeat' first|exact zt|apply zan|intro hc
   refine Qk _ rfl ?_;simp only [go_sem]
   rw [← hinv];simp [wG,hy]
  ·have hy':p y = false:=by simpa using hy
   rw [hy'] at hpy
   (have zy0:=hpy.b;have zx:=za hget (za hw (za e1 (za s1 s2))));refine zgo ?_;repeat' first|exact zt|apply zan|intro hc
   refine hL _ (k + 1) zet ⟨by omega,?_⟩ (by omega) zoe
   rw [hr,← hinv,wG,if_neg hy]
theorem akp (p:Int→Bool):∀ (xs:List Int) (k:Nat),(wG p k xs = -1∧∀ y∈xs,p y = false)∨∃ i y,wG p k xs = ((k + i:Nat):Int)∧xs[i]? = some y∧p y = true∧∀ z∈xs.take i,p z = false
 | [],k=>.inl ⟨rfl,by simp⟩
 | x :: r,k=>by
   rw [wG]
   by_cases h:p x = true
   ·rw [if_pos h];exact .inr ⟨0,x,rfl,rfl,h,by simp⟩
   ·rw [if_neg h]
    have h2:p x = false:=by simpa using h
    rcases akp p r (k + 1) with ⟨h3,h4⟩|⟨i,y,h3,h4,h5,h6⟩
    ·exact .inl ⟨h3,fun y hy=>by
      rcases zF.1 hy with rfl|hy
      ·exact h2
      ·exact h4 y hy⟩
    ·refine .inr ⟨i + 1,y,by rw [h3];congr 1;omega,by simpa using h4,h5,fun z hz=>?_⟩
     rw [List.take_succ_cons] at hz
     rcases zF.1 hz with rfl|hz
     ·exact h2
     ·exact h6 z hz
theorem aky {p:Int→Bool} {xs:List Int} (h:∀ y∈xs,p y = false):xs.filter (fun x=>!p x) = xs:=by
 rw [List.filter_eq_self];intro y hy;rw [h y hy];rfl
def JE:=qd Proofs.Tryz.f39 []
def Yj (Γ:Env) (f:Nat):Prop:=∀ (xs:List Int) (g:Nat) (cap:List V) (p:Int→Bool) (hp:∀ x∈xs,EvN Γ g (V.int x :: cap) (V.bool (p x))) (hcap:Qd cap) (hl:xs.length < 2 ^ 34),EvZ Γ f [.clo g cap] 1 (xs.map V.int) ((xs.filter fun x ↦ !p x).length) ((xs.filter fun x ↦ !p x).map V.int++List.replicate (xs.length - (xs.filter fun x ↦ !p x).length) (V.int 0))
attribute [local go_sem] Ju in
theorem Ka {Γ:Env} {f:Nat} (h:Has Γ.P f 42 JE.1.1.ac JE.1.2) (z0:Yu Γ 75):Yj Γ f:=by
 intro xs g cap p hp hcap hl
 refine ad3 h (by simp) fun C hC hm=>?_
 subst hC
 simp only [JE,qd,DC.ac]
 have s1:∀ o,Yk o cap = cap:=fun o=>YR o cap hcap
 have s2:∀ o B,Qu o B cap = True:=fun o B=>eq_true (Ye o B cap hcap)
 have s3:∀ τ,KC τ cap = cap:=fun τ=>Q8 τ cap hcap
 have s4:∀ n,ltL n cap:=fun n=>Y9 n cap hcap
 have hlen:(xs.map V.int).length = xs.length:=zb _
 have htk:List.take xs.length (xs.map V.int) = xs.map V.int:=zh (by omega)
 have hi:=(z0 xs g cap p hp hcap (by omega)).b
 rcases akp p xs 0 with ⟨hx,hall⟩|⟨i,y,hx,hy,hpy,hall⟩
 ·rw [aky hall,kH]
  rw [hx] at hi
  have e1:((-1:Int) == -1) = true:=by decide
  (have zx:=za e1 (za s1 (za s2 (za hlen htk))));refine zgo ?_;repeat' first|exact zt|apply zan|intro hc
  all_goals first|(refine ah8 _ rfl rfl rfl ?_ ?_<;>first|rfl|(simp;done))
 rw [kC] at hx
 rw [hx] at hi
 have hil:=(zn.1 hy).1
 have e1:((i:Int) == -1) = false:=by rw [kI];omega
 have hwi:=Qf (k:=i) (by omega)
 (have zx:=za e1 (za s1 (za s2 (za hlen (za htk hwi)))));refine zgo ?_;repeat' first|exact zt|apply zan|intro hc
 refine Qo (ι:=List Int×Nat×Nat) (fun q=>q.1.length = xs.length∧q.2.1 < q.2.2∧q.2.2≤xs.length∧q.1.take q.2.1 = (xs.take q.2.2).filter (fun x=>!p x)∧q.1.drop q.2.2 = xs.drop q.2.2)
  (fun q=>Ju [(0,.hd 0 0 (xs.map V.int).length),(1,.clo g cap),(5,V.int q.2.1),(6,V.int q.2.2)] [(0,.buf true 1 (q.1.map V.int))] 1) (fun q=>xs.length - q.2.2) (xs,i,i + 1)
  ⟨rfl,by simp only;omega,by simp only;omega,?_,rfl⟩ (Qe []) (Qg [] (by simp only [go_sem,zwl,s3,s4,hlen]<;>exact zcc) zwa (by simp) (by simp) (by omega)) fun q hq K' hL=>?_
 ·dsimp only
  rw [zO,hy,Zz,aky hall]
  simp [hpy]
 obtain ⟨B,n,j⟩:=q
 obtain ⟨hB,hnj,hj,ht,hd⟩:=hq
 dsimp only at hB hnj hj ht hd
 have hBl:(B.map V.int).length = xs.length:=by rw [zb,hB]
 have hwj:=Qf (k:=j) (by omega)
 have hwn:=Qf (k:=n) (by omega)
 by_cases hje:j = xs.length
 ·have e3:decide ((j:Int) < (xs.length:Int)) = false:=zp (by omega)
  rw [hje,zR] at ht
  have hgl:(xs.filter fun x=>!p x).length = n:=by rw [← ht,zQ,hB];omega
  rw [hgl,← ht]
  (have zx:=za e3 hlen);refine zgo ?_;repeat' first|exact zt|apply zan|intro hc
  all_goals first
   | (rw [hlen];omega)
   | omega
   | (refine ah8 _ rfl rfl rfl ?_ ?_<;>first|rfl|(rw [Zv (by rw [hBl];omega),ki,kp];first|done|rfl)|(simp;done))
 have e3:decide ((j:Int) < (xs.length:Int)) = true:=zo (by omega)
 obtain ⟨u,hu⟩:∃ u,xs[j]? = some u:=⟨_,zd (by omega)⟩
 have hpu:=hp u (zu hu)
 have bu:B[j]? = some u:=by
  have:(B.drop j)[0]? = (xs.drop j)[0]?:=by rw [hd]
  rw [Zl,Zl,Nat.add_zero,hu] at this
  exact this
 have vu:(B.map V.int)[j]? = some (V.int u):=by rw [zf,bu];rfl
 have hd2:B.drop (j + 1) = xs.drop (j + 1):=by rw [← Zh,← Zh,hd]
 have hset:(B.map V.int).set n (V.int u) = (B.set n u).map V.int:=Zu.symm
 have ht2:(xs.take (j + 1)).filter (fun x=>!p x) = B.take n++(if p u = true then [] else [u]):=by
  rw [zO,hu,Zz,ht]
  rcases hb0:p u with _|_<;>simp [hb0]
 rcases hb:p u with _|_
 ·rw [hb] at hpu ht2
  obtain ⟨t,bt⟩:∃ t,B[n]? = some t:=⟨_,zd (by omega)⟩
  have vt:(B.map V.int)[n]? = some (V.int t):=by rw [zf,bt];rfl
  (have zy0:=hpu.b;have zx:=za e3 (za hlen (za hwj (za hwn (za vu (za vt (za hset (za s1 s2))))))));refine zgo ?_;repeat' first|exact zt|apply zan|intro hc
  all_goals first
   | exact hL _ (B.set n u,n + 1,j + 1) (Qe []) ⟨by simp [hB],by simp only;omega,by simp only;omega,by
      dsimp only
      rw [ht2,zO,ZM (by omega),List.take_set_of_le (by omega)];rfl,by
      dsimp only
      rw [List.drop_set_of_lt (by omega)];exact hd2⟩ (by simp only;omega) (Qg [] (by simp only [go_sem,zwl,s3,s4,hlen]<;>exact zcc) zwa (by simp) (by simp) (by omega))
 ·rw [hb] at hpu ht2
  (have zy0:=hpu.b;have zx:=za e3 (za hlen (za hwj (za hwn (za vu (za s1 s2))))));refine zgo ?_;repeat' first|exact zt|apply zan|intro hc
  all_goals first
   | exact hL _ (B,n,j + 1) (Qe []) ⟨hB,by simp only;omega,by simp only;omega,by dsimp only;rw [ht2];simp,hd2⟩ (by simp only;omega) (Qg [] (by simp only [go_sem,zwl,s3,s4,hlen]<;>exact zcc) zwa (by simp) (by simp) (by omega))
def Y4:=qd Proofs.Tryz.f40 []
def X1 (Γ:Env) (f:Nat):Prop:=∀ (x i:Int),EvN Γ f [V.int x,.ro [V.int i] 0] (V.bool (x == i))
theorem xK {Γ:Env} {f:Nat} (h:Has Γ.P f 7 Y4.1.1.ac Y4.1.2) :X1 Γ f:=by
 intro x i
 refine Qb h zsi zcl zcl fun C hC hm=>?_
 subst hC
 simp only [Y4,qd,DC.ac]
 exact zg
def alA (l:List Qa) (gap day age:Int) (f:Qc) (fs:List Nat):Bool:=decide (J8 (Qn l fs) gap = 0) && KB (Qn l fs) gap day age f
def YQ (i:Nat) (fs:List Nat):List Nat:=fs.filter fun x=>!(x == i)
def xw (h:List Nat→Bool):List Nat→List Nat→Bool→List Nat×Bool
 | [],fs,b=>(fs,b)
 | i :: r,fs,b=>if h (YQ i fs) = true then xw h r (YQ i fs) true else xw h r fs b
def aeM (h:List Nat→Bool):Nat→List Nat→List Nat
 | 0,fs=>fs
 | n + 1,fs=>if (xw h fs fs false).2 = true then aeM h n (xw h fs fs false).1 else (xw h fs fs false).1
theorem aoW (i:Nat) (fs:List Nat):(YQ i fs).length≤fs.length:=Zi ..
theorem aqY {i:Nat} {fs:List Nat} (h:i∈fs):(YQ i fs).length < fs.length:=by
 rw [YQ,List.length_filter_lt_length_iff_exists]
 exact ⟨i,h,by simp⟩
theorem af6 (i:Nat) (fs:List Nat):(YQ i fs).Sublist fs:=List.filter_sublist
theorem aac {h:List Nat→Bool}:∀ (r fs:List Nat) (b:Bool),(xw h r fs b).1.Sublist fs
 | [],fs,b=>ZI _
 | i :: r,fs,b=>by
   rw [xw]
   split
   ·exact (aac r _ _).trans (af6 i fs)
   ·exact aac r _ _
theorem ai3 {h:List Nat→Bool}:∀ (r fs:List Nat),r.Nodup→(∀ i∈r,i∈fs)→(xw h r fs false).2 = true→(xw h r fs false).1.length < fs.length
 | [],fs,_,_,hb=>by cases hb
 | i :: r,fs,hn,hs,hb=>by
   rw [xw] at hb ⊢
   split
   ·exact Nat.lt_of_le_of_lt (aac r _ _).length_le (aqY (hs i kG))
   ·rename_i hh
    rw [if_neg hh] at hb
    exact ai3 r fs (Zr.1 hn).2 (fun j hj=>hs j (kL _ hj)) hb
theorem akB {h:List Nat→Bool}:∀ (n:Nat) (fs:List Nat),(aeM h n fs).Sublist fs
 | 0,fs=>ZI _
 | n + 1,fs=>by
   rw [aeM]
   split
   ·exact (akB n _).trans (aac fs fs false)
   ·exact aac fs fs false
def agf (l:List Qa) (gap day age:Int) (f:Qc):List Nat:=aeM (alA l gap day age f) (l.length + 1) (List.range l.length)
def aeL (l:List Qa) (gap day age:Int) (f:Qc):V :=
 if JF l gap day age = 0 then (if KB l gap day age f = true then .tup [.sl 1 (Qt (agf l gap day age f)),V.int 0] else .tup [.sl 1 [],V.int 4]) else .tup [.sl 1 [],V.int (JF l gap day age)]
def zrs (z:Nat):List V:=List.replicate z (V.int 0)
theorem ak0 (z:Nat):Qd (zrs z):=by
 induction z with
 | zero=>trivial
 | succ z ih=>exact ⟨trivial,ih⟩
def lfc (fs:List Nat) (z:Nat):List V:=Qt fs++zrs z
theorem afx (fs:List Nat) (z:Nat):Qd (lfc fs z):=by
 rw [lfc]
 induction fs with
 | nil=>exact ak0 z
 | cons i r ih=>exact ⟨by simp only [V.closed],ih⟩
theorem abh (σ:Nat→Nat) (fs:List Nat) (z:Nat):KC σ (lfc fs z) = lfc fs z:=Q8 _ _ (afx fs z)
theorem afw (n:Nat) (fs:List Nat) (z:Nat):ltL n (lfc fs z):=Y9 _ _ (afx fs z)
theorem aoU (fs:List Nat):lfc fs 0 = Qt fs:=ki _
theorem af5 (fs:List Nat) (z:Nat):(lfc fs z).take fs.length = Qt fs:=by
 rw [lfc,List.take_append_of_le_length (by rw [Jh];exact zj _),zh (by rw [Jh];exact zj _)]
theorem aje (fs:List Nat) (z:Nat):(lfc fs z).length = fs.length + z:=by simp [lfc,zrs,Qt]
theorem aoV (i:Nat) (fs:List Nat):((fs.map fun n:Nat=>(n:Int)).filter fun x=>!(x == (i:Int))) = (YQ i fs).map fun n:Nat=>(n:Int):=by
 rw [YQ,List.filter_map]
 congr 1
 apply List.filter_congr
 intro x _
 simp only [Function.comp]
 congr 1
 rw [kZ]
 simp
 omega
theorem ail {l:List Qa} {fs:List Nat} (h:∀ x∈l,x.Sz):∀ x∈Qn l fs,x.Sz:=fun x hx=>by
 rw [Qn,Z7] at hx
 obtain ⟨i,_,hi⟩:=hx
 exact h x (zu hi)
def exT (l:List Qa) (gap day age:Int):List (Nat×V):=[(0,.sl 11 (l.map Qa.v)),(1,V.int gap),(2,V.int day),(3,V.int age),(9,.ptr 0 0)]
def anK (l:List Qa) (gap day age:Int) (f:Qc) (k:Nat):St:=Ju (exT l gap day age++[(14,.hd 1 0 k),(39,V.int l.length),(40,V.int k)]) [(0,.box true f.cells),(1,.buf true 1 (Qt (List.range k)))] 2
def ajs (l:List Qa) (gap day age:Int) (f:Qc) (fs:List Nat) (z:Nat) (b:Bool):St:=Ju (exT l gap day age++[(14,.hd 1 0 fs.length),(16,V.bool b)]) [(0,.box true f.cells),(1,.buf true 1 (lfc fs z))] 2
def agh (l:List Qa) (gap day age:Int) (f:Qc) (fs gs:List Nat) (z:Nat) (b:Bool) (k:Nat):St:=Ju (exT l gap day age++[(14,.hd 1 0 gs.length),(16,V.bool b),(50,.hd 2 0 fs.length),(51,V.int fs.length),(52,V.int k)]) [(0,.box true f.cells),(1,.buf true 1 (lfc gs z)),(2,.buf true 1 (Qt fs))] 3
def XL:=qd Proofs.Tryz.f18 [zhn 13]
def Xm (Γ:Env) (f:Nat):Prop:=∀ (l:List Qa) (gap day age:Int) (f0:Qc) (hl:l.length≤12) (hz:∀ x∈l,x.Sz),EvC Γ f [.sl 11 (l.map Qa.v),V.int gap,V.int day,V.int age,f0.v] (aeL l gap day age f0)
attribute [local go_sem] Ju in
theorem vF {Γ:Env} {f:Nat} (h:Has Γ.P f 79 XL.1.1.ac XL.1.2) (z0:WF Γ 16) (z1:Yg Γ 38) (z3:X1 Γ 40) (z4:Yj Γ 39) (z5:Us Γ 41):Xm Γ f:=by
 intro l gap day age f0 hl hz
 refine Jy h zsi (by unfold aeL;(repeat' split)<;>simp only [V.closed,Qd,and_self]) fun C hC hm=>?_
 subst hC
 simp only [XL,qd,DC.ac]
 have g0:=(z0 l gap day age f0 hl hz).b
 simp only [Qc.v,Qc.cells] at g0 ⊢
 by_cases hE:JF l gap day age = 0
 rotate_left
 ·rw [aeL,if_neg hE]
  rw [q9,if_neg hE] at g0
  have e01:(JF l gap day age != 0) = true:=by simpa using hE
  generalize JF l gap day age = er at *
  (have zx:=e01);exact zg
 rw [aeL,if_pos hE]
 have hkE:∀ l':List Qa,JF l' gap day age = J8 l' gap:=fun l'=>aoY (j5.1 hE).rng
 rw [q9,if_pos hE] at g0
 have e00:((0:Int) != 0) = false:=by decide
 rcases hH:KB l gap day age f0 with _|_
 ·rw [if_neg (by decide)]
  rw [hH] at g0
  (have zx:=e00);exact zg
 rw [if_pos rfl]
 rw [hH] at g0
 have hgv:(l.map Qa.v).length = l.length:=zb _
 (have zx:=za e00 hgv);refine zgo ?_;repeat' first|exact zt|apply zan|intro hc
 refine Qo (ι:=Nat) (fun k=>k≤l.length) (fun k=>anK l gap day age f0 k) (fun k=>l.length - k) 0 (zH _) (Qe [(1,20000)]) (Qg [(1,20000)] (by simp only [go_sem,zwl,anK,exT,List.cons_append,List.nil_append]<;>exact zcc) (by simp only [go_sem,zwl,anK,exT,Qc.cells,Qq,Qy]<;>exact zcc) (by simp [anK,Qe]) (by simp [anK];omega) (by omega)) fun k hk K' hL=>?_
 rcases kM k l.length with hk'|hkl
 ·have hw:=Qf (k:=k) (by omega)
  have e1:decide ((k:Int) < (l.length:Int)) = true:=zo (by omega)
  have hjn:=wR k
  have hol:(Qt (List.range k)).length = k:=by rw [Jh,kU]
  have htl:List.take k (Qt (List.range k)) = Qt (List.range k):=zh (by omega)
  simp only [anK,exT,Qc.cells,List.cons_append,List.nil_append]
  (have zx:=za e1 (za hw (za hjn (za hol htl))));refine zgo ?_;repeat' first|exact zt|apply zan|intro hc
  all_goals exact hL _ (k + 1) (Qe [(1,6002)]) (by omega) (by omega) (Qg [(1,6002)] (by simp only [go_sem,zwl,anK,exT,List.cons_append,List.nil_append]<;>exact zcc) (by simp only [go_sem,zwl,anK,exT,Qc.cells,Qq,Qy]<;>exact zcc) (by simp [anK,Qe]) (by simp [anK];omega) (by omega))
 obtain rfl:k = l.length:=by omega
 clear hL
 have e1:decide ((l.length:Int) < (l.length:Int)) = false:=by simp
 simp only [anK,exT,Qc.cells,List.cons_append,List.nil_append]
 (have zx:=e1);refine zgo ?_;repeat' first|exact zt|apply zan|intro hc
 have hrl:(List.range l.length).length = l.length:=kU
 have hz0:=aoU (List.range l.length)
 generalize hhh:alA l gap day age f0 = hh at *
 generalize hfin:aeM hh (l.length + 1) (List.range l.length) = fin at *
 have hfo:agf l gap day age f0 = fin:=by rw [agf,hhh,hfin]
 rw [hfo]
 refine Qo (ι:=List Nat×Nat×Bool×Nat) (fun q=>q.1.Sublist (List.range l.length)∧if q.2.2.1 = true then q.1.length < q.2.2.2∧aeM hh q.2.2.2 q.1 = fin else q.1 = fin) (fun q=>ajs l gap day age f0 q.1 q.2.1 q.2.2.1) (fun q=>if q.2.2.1 = true then q.2.2.2 else 0) (List.range l.length,0,true,l.length + 1) ⟨ZI _,by dsimp only;rw [if_pos rfl];exact ⟨by omega,hfin⟩⟩ (Qe []) (Qg [] (by simp only [go_sem,zwl,ajs,exT,hrl,List.cons_append,List.nil_append]<;>exact zcc) (by simp only [go_sem,zwl,ajs,exT,hz0,Qc.cells,Qq,Qy]<;>exact zcc) (by simp [ajs,Qe]) (by simp [ajs]) (by omega)) fun q hq K' hL=>?_
 obtain ⟨fs,z,b,n⟩:=q
 obtain ⟨hsb,hif⟩:=hq
 dsimp only at hsb hif
 have hfl:=hsb.length_le
 rw [hrl] at hfl
 have hft:=af5 fs z
 have hll:=aje fs z
 have hmem:∀ gs:List Nat,gs.Sublist fs→∀ i∈gs,i < l.length:=fun gs h1 i h2=>kW.1 (hsb.subset (h1.subset h2))
 rcases b with _|_
 ·rw [if_neg (by decide)] at hif
  subst hif
  simp only [ajs,exT,Qc.cells,List.cons_append,List.nil_append]
  (have zx:=hft);refine zgo ?_;repeat' first|exact zt|apply zan|intro hc
  all_goals (refine Qk _ rfl ?_;simp only [go_sem];rw [hft];done)
 rw [if_pos rfl] at hif
 obtain ⟨hn,hex⟩:=hif
 obtain ⟨n,rfl⟩:∃ m,n = m + 1:=⟨n - 1,by omega⟩
 rw [aeM] at hex
 have gC:=z1 (fs.map fun n:Nat=>(n:Int)) (by rw [zb];omega)
 simp only [adp] at gC
 have hpl:(Qt fs).length = fs.length:=Jh fs
 simp only [ajs,exT,Qc.cells,List.cons_append,List.nil_append]
 (have zx:=za hft hpl);refine zgo ?_;repeat' first|exact zt|apply zan|intro hc
 refine Qo (ι:=List Nat×Nat×Bool×Nat) (fun q=>q.2.2.2≤fs.length∧q.1.Sublist fs∧xw hh (fs.drop q.2.2.2) q.1 q.2.2.1 = xw hh fs fs false) (fun q=>agh l gap day age f0 fs q.1 q.2.1 q.2.2.1 q.2.2.2) (fun q=>fs.length - q.2.2.2) (fs,z,false,0) ⟨zH _,ZI _,by rw [kK]⟩ (Qe [(2,3002)]) (Qg [(2,3002)] (by simp only [go_sem,zwl,agh,exT,List.cons_append,List.nil_append]<;>exact zcc) (by simp only [go_sem,zwl,agh,exT,Qc.cells,abh,afw,Qq,Qy]<;>exact zcc) (by simp [agh,Qe]) (by simp [agh];omega) (by omega)) fun q hq K2 hL2=>?_
 obtain ⟨gs,z2,b2,k⟩:=q
 obtain ⟨hk,hgs,hps⟩:=hq
 dsimp only at hk hgs hps
 have hgl:=hgs.length_le
 have hft2:=af5 gs z2
 have hll2:=aje gs z2
 rcases hdr:fs.drop k with _|⟨i,r⟩
 ·have hkl:=Qs hdr
  have e2:decide ((k:Int) < (fs.length:Int)) = false:=zp (by omega)
  rw [hdr,xw] at hps
  have hlt:=ai3 (h:=hh) fs fs (bk.sublist hsb) (fun i hi=>hi)
  rw [← hps] at hex hlt
  dsimp only at hex hlt
  simp only [agh,exT,Qc.cells,List.cons_append,List.nil_append]
  rcases b2 with _|_
  ·rw [if_neg (by decide)] at hex
   (have zx:=e2);refine zgo ?_;repeat' first|exact zt|apply zan|intro hc
   all_goals exact hL _ (gs,z2,false,0) (Qe []) ⟨hgs.trans hsb,by dsimp only;rw [if_neg (by decide)];exact hex⟩ (by simp) (Qg [] (by simp only [go_sem,zwl,ajs,exT,List.cons_append,List.nil_append]<;>exact zcc) (by simp only [go_sem,zwl,ajs,exT,Qc.cells,abh,afw]<;>exact zcc) (by simp [ajs,Qe]) (by simp [ajs]) (by omega))
  ·rw [if_pos rfl] at hex
   have hlt2:=hlt rfl
   (have zx:=e2);refine zgo ?_;repeat' first|exact zt|apply zan|intro hc
   all_goals exact hL _ (gs,z2,true,n) (Qe []) ⟨hgs.trans hsb,by dsimp only;rw [if_pos rfl];exact ⟨by omega,hex⟩⟩ (by simp) (Qg [] (by simp only [go_sem,zwl,ajs,exT,List.cons_append,List.nil_append]<;>exact zcc) (by simp only [go_sem,zwl,ajs,exT,Qc.cells,abh,afw]<;>exact zcc) (by simp [ajs,Qe]) (by simp [ajs]) (by omega))
 obtain ⟨hk',hget,hr⟩:=Ql hdr
 have hw:=Qf (k:=k) (by omega)
 have e2:decide ((k:Int) < (fs.length:Int)) = true:=zo (by omega)
 have vi:=YE hget
 have gC2:=z1 (gs.map fun n:Nat=>(n:Int)) (by rw [zb];omega)
 have gZ:=z4 (gs.map fun n:Nat=>(n:Int)) 40 [.ro [V.int (i:Int)] 0] (fun x=>x == (i:Int)) (fun x _=>z3 x i) (by simp only [V.closed,Qd,and_self]) (by rw [zb];omega)
 have hlf:Qt (YQ i gs)++List.replicate (gs.length - (YQ i gs).length) (V.int 0) = lfc (YQ i gs) (gs.length - (YQ i gs).length):=rfl
 simp only [adp,aoV,zb,hlf] at gC2 gZ
 have hls:=af6 i gs
 have hle:=aoW i gs
 have hft3:=af5 (YQ i gs) (gs.length - (YQ i gs).length)
 have hll3:=aje (YQ i gs) (gs.length - (YQ i gs).length)
 have hcb:=hmem (YQ i gs) (hls.trans hgs)
 have hcl:=wA hcb
 have p1:=z5 l (YQ i gs) hcb (by omega)
 have hct:List.take (Qn l (YQ i gs)).length ((Qn l (YQ i gs)).map Qa.v) = (Qn l (YQ i gs)).map Qa.v:=zh (by simp)
 have hcm:((Qn l (YQ i gs)).map Qa.v).length = (Qn l (YQ i gs)).length:=zb _
 have p2:=(z0 (Qn l (YQ i gs)) gap day age f0 (by omega) (ail hz)).b
 simp only [Qc.v,Qc.cells] at p2
 have hh1:hh (YQ i gs) = (decide (J8 (Qn l (YQ i gs)) gap = 0) && KB (Qn l (YQ i gs)) gap day age f0):=by rw [← hhh,alA]
 rw [hdr,xw,hh1,← hr] at hps
 clear hh1
 have hgp:(Qt gs).length = gs.length:=Jh gs
 simp only [agh,exT,Qc.cells,List.cons_append,List.nil_append]
 rw [q9,hkE] at p2
 generalize YQ i gs = ls at *
 by_cases h1:J8 (Qn l ls) gap = 0
 ·rw [if_pos h1] at p2
  rw [zo h1,zC] at hps
  have e3:((0:Int) == 0) = true:=by decide
  rcases h2:KB (Qn l ls) gap day age f0 with _|_
  ·rw [h2,if_neg (by decide)] at hps
   rw [h2] at p2
   repeat' (first|(refine zsk ?_;intro K' hK)|(refine zrg ?_;intro K' hK)|refine zsp ?_|(refine zsc ?_ ?_<;>intro hc<;>first|exact znh|try simp only [znz] at hc)|simp (maxSteps:=1000000) only [go_sem,Ju,e2,e3,hw,vi,hft2,hft3,hgp,hct,hcm,Int.toNat_natCast]|(refine hK _ ?_;clear hK K')|apply zan|(apply ajJ;(focus exact rfl);(focus first|exact gZ);(focus exact rfl);(focus (first|exact rfl|(simp;done)|omega|(simp only [zb];omega)));(focus exact rfl);(focus first|exact rfl|decide);(focus (simp only [V.closed,Qd,and_self])))|((first|apply acf|apply xQ);(focus first|exact gC2|exact p1|exact (z1 _ zsd)))|(apply ait;(focus exact rfl);(focus first|exact (z4 _ _ _ _ zsd zsd zsd));(focus exact rfl);(focus (first|(simp;done)|omega|(simp only [zb];omega))))|((first|apply QF|apply QC);(focus first|exact p2|exact (z3 _ _).b))|exact zsq|fail)
   all_goals exact hL2 _ (gs,z2,b2,k + 1) (Qe []) ⟨by simp only;omega,hgs,hps⟩ (by simp only;omega) (Qg [] (by simp only [go_sem,zwl,agh,exT,List.cons_append,List.nil_append]<;>exact zcc) (by simp only [go_sem,zwl,agh,exT,Qc.cells,abh,afw,Qq,Qy]<;>exact zcc) (by simp [agh,Qe]) (by simp [agh]) (by omega))
  ·rw [h2,if_pos rfl] at hps
   rw [h2] at p2
   repeat' (first|(refine zsk ?_;intro K' hK)|(refine zrg ?_;intro K' hK)|refine zsp ?_|(refine zsc ?_ ?_<;>intro hc<;>first|exact znh|try simp only [znz] at hc)|simp (maxSteps:=1000000) only [go_sem,Ju,e2,e3,hw,vi,hft2,hft3,hgp,hct,hcm,Int.toNat_natCast]|(refine hK _ ?_;clear hK K')|apply zan|(apply ajJ;(focus exact rfl);(focus first|exact gZ);(focus exact rfl);(focus (first|exact rfl|(simp;done)|omega|(simp only [zb];omega)));(focus exact rfl);(focus first|exact rfl|decide);(focus (simp only [V.closed,Qd,and_self])))|((first|apply acf|apply xQ);(focus first|exact gC2|exact p1|exact (z1 _ zsd)))|(apply ait;(focus exact rfl);(focus first|exact (z4 _ _ _ _ zsd zsd zsd));(focus exact rfl);(focus (first|(simp;done)|omega|(simp only [zb];omega))))|((first|apply QF|apply QC);(focus first|exact p2|exact (z3 _ _).b))|exact zsq|fail)
   all_goals exact hL2 _ (ls,gs.length - ls.length,true,k + 1) (Qe [(1,6003)]) ⟨by simp only;omega,hls.trans hgs,hps⟩ (by simp only;omega) (Qg [(1,6003)] (by simp only [go_sem,zwl,agh,exT,List.cons_append,List.nil_append]<;>exact zcc) (by simp only [go_sem,zwl,agh,exT,Qc.cells,abh,afw,Qq,Qy]<;>exact zcc) (by simp [agh,Qe]) (by simp [agh];omega) (by omega))
 ·rw [if_neg h1] at p2
  rw [zp h1,zy,if_neg (by decide)] at hps
  have e3:(J8 (Qn l ls) gap == 0) = false:=by rw [kI];exact h1
  repeat' (first|(refine zsk ?_;intro K' hK)|(refine zrg ?_;intro K' hK)|refine zsp ?_|(refine zsc ?_ ?_<;>intro hc<;>first|exact znh|try simp only [znz] at hc)|simp (maxSteps:=1000000) only [go_sem,Ju,e2,e3,hw,vi,hft2,hft3,hgp,hct,hcm,Int.toNat_natCast]|(refine hK _ ?_;clear hK K')|apply zan|(apply ajJ;(focus exact rfl);(focus first|exact gZ);(focus exact rfl);(focus (first|exact rfl|(simp;done)|omega|(simp only [zb];omega)));(focus exact rfl);(focus first|exact rfl|decide);(focus (simp only [V.closed,Qd,and_self])))|((first|apply acf|apply xQ);(focus first|exact gC2|exact p1|exact (z1 _ zsd)))|(apply ait;(focus exact rfl);(focus first|exact (z4 _ _ _ _ zsd zsd zsd));(focus exact rfl);(focus (first|(simp;done)|omega|(simp only [zb];omega))))|((first|apply QF|apply QC);(focus first|exact p2|exact (z3 _ _).b))|exact zsq|fail)
  all_goals exact hL2 _ (gs,z2,b2,k + 1) (Qe []) ⟨by simp only;omega,hgs,hps⟩ (by simp only;omega) (Qg [] (by simp only [go_sem,zwl,agh,exT,List.cons_append,List.nil_append]<;>exact zcc) (by simp only [go_sem,zwl,agh,exT,Qc.cells,abh,afw,Qq,Qy]<;>exact zcc) (by simp [agh,Qe]) (by simp [agh]) (by omega))
def ag5 (ls:List (List Qc)) (k:Nat):Nat:=(ls.take k).flatten.length
theorem ahb {ls:List (List Qc)} {k:Nat} {f:List Qc} (h:ls[k]? = some f):ag5 ls (k + 1) = ag5 ls k + f.length:=by
 simp [ag5,zO,h]
theorem aiM (ls:List (List Qc)) (k:Nat):ag5 ls k≤ls.flatten.length:=by
 have h:ls.flatten = (ls.take k).flatten++(ls.drop k).flatten:=by rw [← List.flatten_append,Zd]
 rw [ag5,h,zq];omega
def ccS (ls:List (List Qc)) (k:Nat):St:=Ju [(6,.hd 0 0 (ag5 ls k)),(25,.sl 1 (ls.map fcv)),(26,V.int ls.length),(27,V.int k)] [(0,.buf true 8 ((ls.take k).flatten.map Qc.v))] 1
def YM (Γ:Env) (f:Nat):Prop:=∀ (n:Nat) (hn:n < 2 ^ 30),EvW Γ f [.sc (.slice none 0 0),V.int n] 8 ([]:List V)
def Q3:=qd Proofs.Tryz.f31 []
def JD (Γ:Env) (f:Nat):Prop:=∀ (ls:List (List Qc)) (hn:ls.length < 2 ^ 30) (ht:ls.flatten.length < 2 ^ 30),EvW Γ f [.sl 1 (ls.map fcv)] 8 (ls.flatten.map Qc.v)
attribute [local go_sem] Ju in
theorem WQ {Γ:Env} {f:Nat} (h:Has Γ.P f 36 Q3.1.1.ac Q3.1.2) (z0:YM Γ 65):JD Γ f:=by
 intro ls hn ht
 refine XX h (by simp) (by first|exact adF _|exact adb _|(intro x hx;obtain ⟨y,_,rfl⟩:=zE.1 hx;simp only [Qc.v,Qc.cells,V.noSl,WP,and_self])) fun C hC hm=>?_
 subst hC
 simp only [Q3,qd,DC.ac]
 have hal:(ls.map fcv).length = ls.length:=zb _
 (have zx:=hal);refine zgo ?_;repeat' first|exact zt|apply zan|intro hc
 refine Qx (ι:=Nat) (fun k=>k≤ls.length) (fun k=>[(3,V.int (ag5 ls k)),(11,V.int k)]) (fun k=>ls.length - k) 0 (by omega) (zH _) zol zlt (by simp only [Nat.reduceAdd,ovT,JQ,Nat.reduceEqDiff,reduceIte,Yy,Xg,afl,u32,u33,u34,u35,u36,u37,u38,u39,and_self,and_true,true_and];simp [ag5]) fun k hk K' hL=>?_
 simp only [ovT,JQ,Nat.reduceEqDiff,reduceIte]
 rcases hdr:ls.drop k with _|⟨f,r⟩
 rotate_left
 ·obtain ⟨hk',hget,hr⟩:=Ql hdr
  have hw:=Qf (k:=k) (by omega)
  have e1:decide ((k:Int) < (ls.length:Int)) = true:=by simp;omega
  have vf:(ls.map fcv)[k]? = some (.sl 8 (f.map Qc.v)):=by rw [zf,hget];rfl
  have hfl:(f.map Qc.v).length = f.length:=zb _
  have hsu:=ahb hget
  have hle:=aiM ls (k + 1)
  have hw2:IntKind.i64.wrap (((ag5 ls k:Nat):Int) + ((f.length:Nat):Int)) = ((ag5 ls (k + 1):Nat):Int):=by rw [QG (by omega) (by omega),hsu];simp
  have e2:decide (((ag5 ls (k + 1):Nat):Int) < 0) = false:=by simp
  (have zx:=za e1 (za e2 (za hal (za hw (za hw2 (za vf hfl))))));refine zgo ?_;repeat' first|exact zt|apply zan|intro hc
  all_goals exact hL _ (k + 1) zet (by omega) (by omega) zoe
 have hkl:=Qs hdr
 have e1:decide ((k:Int) < (ls.length:Int)) = false:=by simp;omega
 obtain rfl:k = ls.length:=by omega
 have htt:ag5 ls ls.length = ls.flatten.length:=by rw [ag5,zR]
 have gW:=z0 (ag5 ls ls.length) (by omega)
 clear hL
 (have zx:=za e1 hal);refine zgo ?_;repeat' first|exact zt|apply zan|intro hc
 refine Qo (ι:=Nat) (fun k=>k≤ls.length) (fun k=>ccS ls k) (fun k=>ls.length - k) 0 (zH _) (Qe [(0,7000)]) (Qg [(0,7000)] (by simp only [go_sem,zwl,ccS,ag5,List.take_zero,List.flatten_nil,List.length_nil,hal]<;>exact zcc) (by simp only [go_sem,zwl,ccS,List.take_zero,List.flatten_nil,zK]<;>exact zcc) (by simp [ccS,Qe]) (by simp [ccS];omega) (by omega)) fun k hk K' hL=>?_
 rcases hdr:ls.drop k with _|⟨f,r⟩
 ·have hkl:=Qs hdr
  have e1:decide ((k:Int) < (ls.length:Int)) = false:=by simp;omega
  obtain rfl:k = ls.length:=by omega
  have htk:ls.take ls.length = ls:=zR
  simp only [ccS,htk,htt]
  have htl:List.take ls.flatten.length (ls.flatten.map Qc.v) = ls.flatten.map Qc.v:=zh (by rw [zb];exact zj _)
  have hmm:ls.flatten.length = (ls.flatten.map Qc.v).length:=(zb _).symm
  (have zx:=za e1 htl);refine zgo ?_;repeat' first|exact zt|apply zan|intro hc
  all_goals first|(refine yc (xs:=ls.flatten.map Qc.v) _ _ rfl ?_ ?_<;>first|exact hmm|exact hmm.symm|rfl|(simp;done))
 obtain ⟨hk',hget,hr⟩:=Ql hdr
 have hw:=Qf (k:=k) (by omega)
 have e1:decide ((k:Int) < (ls.length:Int)) = true:=by simp;omega
 have vf:(ls.map fcv)[k]? = some (.sl 8 (f.map Qc.v)):=by rw [zf,hget];rfl
 have hfl:(f.map Qc.v).length = f.length:=zb _
 have hsu:=ahb hget
 have hle:=aiM ls (k + 1)
 have hnx:(ls.take (k + 1)).flatten = (ls.take k).flatten++f:=by simp [zO,hget]
 have hol:((ls.take k).flatten.map Qc.v).length = ag5 ls k:=by rw [zb];rfl
 have htl:List.take (ag5 ls k) ((ls.take k).flatten.map Qc.v) = (ls.take k).flatten.map Qc.v:=zh (by omega)
 have hcl:∀ y∈f.map Qc.v,y.cells.length = 8:=by intro y hy;obtain ⟨z,_,rfl⟩:=zE.1 hy;rfl
 simp only [ccS]
 (have zx:=za e1 (za hw (za vf (za hfl (za hol htl)))));refine zgo ?_;repeat' first|exact zt|apply zan|intro hc
 all_goals exact hL _ (k + 1) (Qe [(0,6001)]) (by omega) (by omega) (Qg [(0,6001)] (by simp only [go_sem,zwl,ccS,hsu,hal]<;>exact zcc) (by simp only [go_sem,zwl,ccS,hnx,km]<;>exact zcc) (by simp [ccS,Qe]) (by simp [ccS];omega) (by omega))
structure Qj where
 allow:Bool
 alg:Int
 below:Int
 purp:Int
 frm:Int
 til:Int
def Qj.cells (r:Qj):List V:=[V.bool r.allow,V.int r.alg,V.int r.below,V.int r.purp,V.int r.frm,V.int r.til]
abbrev Qj.v (r:Qj):V:=.agg r.cells
theorem Qj.cells_closed (r:Qj):Qd r.cells:=by simp only [Qj.cells,V.closed,Qd,and_self]
end Av
end
