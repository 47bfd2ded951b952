/- K26 -/
import Derived.Test.YtjobognfgjobfaaGreatDoorK22
import Derived.Test.YtjobognfgjobfaaGreatDoorK12
import Derived.Test.YtjobognfgjobfaaGreatDoorK18
import Derived.Test.YtjobognfgjobfaaGreatDoorK17
import Derived.Test.YtjobognfgjobfaaGreatDoorK13
import Derived.Test.YtjobognfgjobfaaGreatDoorK25
set_option linter.unusedVariables false
set_option linter.unusedSimpArgs false
noncomputable section
set_option maxRecDepth 10000
set_option maxHeartbeats 4000000
namespace Av
open Go
attribute [local irreducible] AWp WC wb aai awS awC aeM awQ afz Jk qV aes awR jj awB okR aaf ris
structure Qv where
 name:List UInt8
 least:Int
 most:Int
 suites:List Int
 own:Bool
 fall:Bool
def Qv.cells (d:Qv):List V:=[V.str d.name,V.int d.least,V.int d.most,.sl 1 (d.suites.map V.int),V.bool d.own,.sc (.slice none 0 0),.sc (.slice none 0 0),.sc (.slice none 0 0),V.bool d.fall,.sc (.slice none 0 0)]
theorem Qv.cells_closed (d:Qv):Qb d.cells:=by simp [Qv.cells,V.closed,Qb]
def avg (s:List UInt8):Bool:=ap7 s && (decide (yo s≥1) && decide (yo s≤4))
def Vf:=qd Proofs.Tryz.f96 []
def WB (Γ:Env) (f:Nat):Prop:=∀ (s:List UInt8) (d:Qv) (most:Bool) (hs:s.length < 2 ^ 30),EvF Γ f (if most then 2 else 1) [.sl 1 [V.str s]] d.cells (V.bool (avg s)) (if most then { d with most:=yo s } else { d with least:=yo s }).cells
theorem acX {Γ:Env} {f:Nat} (h:Has Γ.P f 29 Vf.1.1.ac Vf.1.2) (z0:Kb Γ 179):WB Γ f:=by
 intro s d most hs
 refine aii h (by simp) (by first|exact Qv.cells_closed _|simp only [V.closed,Qb,and_self]) (by first|exact Qv.cells_closed _|exact QG _ _|simp only [V.closed,Qb,and_self,and_true,true_and]|(simp [V.closed,Qb];done)) (by first|exact Qv.cells_closed _|exact QG _ _|simp only [V.closed,Qb,and_self,and_true,true_and]|(simp [V.closed,Qb];done)) fun C hC hm=>?_
 subst hC
 simp only [Vf,qd,DC.ac]
 have hd:=(z0 s hs).b
 rcases most with _|_
 ·simp only [zu,if_false,Qv.cells,avg]
  refine zgo ?_;repeat' first|exact zt|apply zan|intro hc
  all_goals first|(refine J0 _ rfl rfl zcd ?_;simp only [go_sem];done)|(refine J0 _ rfl rfl zcd ?_;simp only [go_sem];simp [*];done)
 ·simp only [if_true,Qv.cells,avg]
  refine zgo ?_;repeat' first|exact zt|apply zan|intro hc
  all_goals first|(refine J0 _ rfl rfl zcd ?_;simp only [go_sem];done)|(refine J0 _ rfl rfl zcd ?_;simp only [go_sem];simp [*];done)
def V5:=qd Proofs.Tryz.f100 []
def Vo (Γ:Env) (f:Nat):Prop:=∀ (s yes no:List UInt8) (d:Qv) (own:Bool),EvF Γ f (if own then 4 else 8) [.sl 1 [V.str s],V.str yes,V.str no] d.cells (V.bool (s == yes || s == no)) (if own then { d with own:=s == yes } else { d with fall:=s == yes }).cells
theorem aeg {Γ:Env} {f:Nat} (h:Has Γ.P f 38 V5.1.1.ac V5.1.2) :Vo Γ f:=by
 intro s yes no d own
 refine aii h (by simp) (by first|exact Qv.cells_closed _|simp only [V.closed,Qb,and_self]) (by first|exact Qv.cells_closed _|exact QG _ _|simp only [V.closed,Qb,and_self,and_true,true_and]|(simp [V.closed,Qb];done)) (by first|exact Qv.cells_closed _|exact QG _ _|simp only [V.closed,Qb,and_self,and_true,true_and]|(simp [V.closed,Qb];done)) fun C hC hm=>?_
 subst hC
 simp only [V5,qd,DC.ac]
 rcases own with _|_
 ·simp only [zu,if_false,Qv.cells]
  rcases hq:s == yes with _|_
  ·(have zx:=hq);refine zgo ?_;repeat' first|exact zt|apply zan|intro hc
   all_goals first|(refine J0 _ rfl rfl zcd ?_;simp only [go_sem];done)|(refine J0 _ rfl rfl zcd ?_;simp only [go_sem];simp [*];done)
  ·(have zx:=hq);refine zgo ?_;repeat' first|exact zt|apply zan|intro hc
   all_goals first|(refine J0 _ rfl rfl zcd ?_;simp only [go_sem];done)|(refine J0 _ rfl rfl zcd ?_;simp only [go_sem];simp [*];done)
 ·simp only [if_true,Qv.cells]
  rcases hq:s == yes with _|_
  ·(have zx:=hq);refine zgo ?_;repeat' first|exact zt|apply zan|intro hc
   all_goals first|(refine J0 _ rfl rfl zcd ?_;simp only [go_sem];done)|(refine J0 _ rfl rfl zcd ?_;simp only [go_sem];simp [*];done)
  ·(have zx:=hq);refine zgo ?_;repeat' first|exact zt|apply zan|intro hc
   all_goals first|(refine J0 _ rfl rfl zcd ?_;simp only [go_sem];done)|(refine J0 _ rfl rfl zcd ?_;simp only [go_sem];simp [*];done)
def Xq:=qd Proofs.Tryz.f98 []
def Xe (Γ:Env) (f:Nat):Prop:=∀ (s:List UInt8) (d:Qv) (hs:s.length < 2 ^ 30),EvD Γ f [.sl 1 [V.str s]] d.cells (V.bool ((vL s).2.2 == 0)) ({ d with suites:=(vL s).1 }:Qv).cells
theorem aat {Γ:Env} {f:Nat} (h:Has Γ.P f 26 Xq.1.1.ac Xq.1.2) (z0:qk Γ 180):Xe Γ f:=by
 intro s d hs
 refine JL h zsi (by first|exact Qv.cells_closed _|simp only [V.closed,Qb,and_self]) zc3 zc3 fun C hC hm=>?_
 subst hC
 simp only [Xq,qd,DC.ac]
 have hp:=(z0 s hs).b
 rw [acq] at hp
 simp only [Qv.cells]
 refine zgo ?_;repeat' first|exact zt|apply zan|intro hc
 all_goals (refine J0 _ rfl rfl zcd ?_;simp only [go_sem];done)
def YN:=qd Proofs.Tryz.f95 []
def YD (Γ:Env) (f:Nat):Prop:=∀ (s:List UInt8) (d:Qv) (hs:s.length < 2 ^ 30),EvH Γ f (.sl 1 [V.str s]) d.cells (V.bool (avg s)) ({ d with least:=yo s }:Qv).cells
theorem wh {Γ:Env} {f:Nat} (h:Has Γ.P f 10 YN.1.1.ac YN.1.2) (z0:WB Γ 96):YD Γ f:=by
 intro s d hs
 refine aau h (by simp) (by first|exact Qv.cells_closed _|simp only [V.closed,Qb,and_self]) (by first|exact Qv.cells_closed _|exact QG _ _|simp only [V.closed,Qb,and_self,and_true,true_and]|(simp [V.closed,Qb];done)) (by first|exact Qv.cells_closed _|exact QG _ _|simp only [V.closed,Qb,and_self,and_true,true_and]|(simp [V.closed,Qb];done)) fun C hC hm=>?_
 subst hC
 simp only [YN,qd,DC.ac]
 have hv:=z0 s d false hs
 simp only [zu,if_false,Qv.cells] at hv
 simp only [Qv.cells]
 refine zgo ?_;repeat' first|exact zt|apply zan|intro hc
 all_goals first|(refine aoW _ rfl rfl rfl (by first|simp only [V.closed,Qb,and_self,and_true,true_and]|(simp [V.closed,Qb];done)) ?_;simp only [go_sem];done)
def YM:=qd Proofs.Tryz.f97 []
def YC (Γ:Env) (f:Nat):Prop:=∀ (s:List UInt8) (d:Qv) (hs:s.length < 2 ^ 30),EvH Γ f (.sl 1 [V.str s]) d.cells (V.bool (avg s)) ({ d with most:=yo s }:Qv).cells
theorem wg {Γ:Env} {f:Nat} (h:Has Γ.P f 10 YM.1.1.ac YM.1.2) (z0:WB Γ 96):YC Γ f:=by
 intro s d hs
 refine aau h (by simp) (by first|exact Qv.cells_closed _|simp only [V.closed,Qb,and_self]) (by first|exact Qv.cells_closed _|exact QG _ _|simp only [V.closed,Qb,and_self,and_true,true_and]|(simp [V.closed,Qb];done)) (by first|exact Qv.cells_closed _|exact QG _ _|simp only [V.closed,Qb,and_self,and_true,true_and]|(simp [V.closed,Qb];done)) fun C hC hm=>?_
 subst hC
 simp only [YM,qd,DC.ac]
 have hv:=z0 s d true hs
 simp only [if_true,Qv.cells] at hv
 simp only [Qv.cells]
 refine zgo ?_;repeat' first|exact zt|apply zan|intro hc
 all_goals first|(refine aoW _ rfl rfl rfl (by first|simp only [V.closed,Qb,and_self,and_true,true_and]|(simp [V.closed,Qb];done)) ?_;simp only [go_sem];done)
def YL:=qd Proofs.Tryz.f99 []
def YB (Γ:Env) (f:Nat):Prop:=∀ (s:List UInt8) (d:Qv),EvH Γ f (.sl 1 [V.str s]) d.cells (V.bool (s == [111,119,110] || s == [99,108,105,101,110,116])) ({ d with own:=s == [111,119,110] }:Qv).cells
theorem we {Γ:Env} {f:Nat} (h:Has Γ.P f 10 YL.1.1.ac YL.1.2) (z0:Vo Γ 100):YB Γ f:=by
 intro s d
 refine aau h (by simp) (by first|exact Qv.cells_closed _|simp only [V.closed,Qb,and_self]) (by first|exact Qv.cells_closed _|exact QG _ _|simp only [V.closed,Qb,and_self,and_true,true_and]|(simp [V.closed,Qb];done)) (by first|exact Qv.cells_closed _|exact QG _ _|simp only [V.closed,Qb,and_self,and_true,true_and]|(simp [V.closed,Qb];done)) fun C hC hm=>?_
 subst hC
 simp only [YL,qd,DC.ac]
 have hv:=z0 s [111,119,110] [99,108,105,101,110,116] d true
 simp only [if_true,Qv.cells] at hv
 simp only [Qv.cells]
 refine zgo ?_;repeat' first|exact zt|apply zan|intro hc
 all_goals first|(refine aoW _ rfl rfl rfl (by first|simp only [V.closed,Qb,and_self,and_true,true_and]|(simp [V.closed,Qb];done)) ?_;simp only [go_sem];done)
def YK:=qd Proofs.Tryz.f107 []
def YA (Γ:Env) (f:Nat):Prop:=∀ (s:List UInt8) (d:Qv),EvH Γ f (.sl 1 [V.str s]) d.cells (V.bool (s == [121,101,115] || s == [110,111])) ({ d with fall:=s == [121,101,115] }:Qv).cells
theorem wd {Γ:Env} {f:Nat} (h:Has Γ.P f 10 YK.1.1.ac YK.1.2) (z0:Vo Γ 100):YA Γ f:=by
 intro s d
 refine aau h (by simp) (by first|exact Qv.cells_closed _|simp only [V.closed,Qb,and_self]) (by first|exact Qv.cells_closed _|exact QG _ _|simp only [V.closed,Qb,and_self,and_true,true_and]|(simp [V.closed,Qb];done)) (by first|exact Qv.cells_closed _|exact QG _ _|simp only [V.closed,Qb,and_self,and_true,true_and]|(simp [V.closed,Qb];done)) fun C hC hm=>?_
 subst hC
 simp only [YK,qd,DC.ac]
 have hv:=z0 s [121,101,115] [110,111] d false
 simp only [zu,if_false,Qv.cells] at hv
 simp only [Qv.cells]
 refine zgo ?_;repeat' first|exact zt|apply zan|intro hc
 all_goals first|(refine aoW _ rfl rfl rfl (by first|simp only [V.closed,Qb,and_self,and_true,true_and]|(simp [V.closed,Qb];done)) ?_;simp only [go_sem];done)
theorem abi {α:Type} (p:α→Bool):∀ (xs:List α) (k:Nat),decide (ja p k xs≥0) = xs.any p
 | [],k=>by simp [ja]
 | x :: r,k=>by
   have ih:=abi p r (k + 1)
   rw [ja,List.any_cons]
   by_cases h:p x = true
   ·rw [if_pos h,h];simp
   ·have h2:p x = false:=by simpa using h
    rw [if_neg h,h2,ih];rfl
structure xh where
 sec:List UInt8
 name:List UInt8
 val:List UInt8
 line:Int
def xh.cells (x:xh):List V:=[V.str x.sec,V.str x.name,V.str x.val,V.int x.line]
def xh.v (x:xh):V:=.agg x.cells
def aya (s:List UInt8):Bool:=s == [107,101,121,115] || (s == [97,110,99,104,111,114,115] || s == [104,97,115,104,101,115])
def Vg:=qd Proofs.Tryz.f109 []
def Ki (Γ:Env) (f:Nat):Prop:=∀ (s:List UInt8),EvN Γ f [V.str s] (V.bool (aya s))
theorem acY {Γ:Env} {f:Nat} (h:Has Γ.P f 13 Vg.1.1.ac Vg.1.2) :Ki Γ f:=by
 intro s
 refine Qc h zsi zcl zcl fun C hC hm=>?_
 subst hC
 simp only [Vg,qd,DC.ac]
 have e:aya s = (s == [107,101,121,115] || (s == [97,110,99,104,111,114,115] || s == [104,97,115,104,101,115])):=rfl
 rw [e]
 rcases h1:s == [107,101,121,115] with _|_<;>rcases h2:s == [97,110,99,104,111,114,115] with _|_
 all_goals
  (have zx:=za h1 h2);exact zg
def V3:=qd Proofs.Tryz.f49 []
def qI (Γ:Env) (f:Nat):Prop:=∀ (x:xh) (hn:aya x.name = false),EvW Γ f [x.v] 1 (([x.val]:List (List UInt8)).map V.str)
theorem aee {Γ:Env} {f:Nat} (h:Has Γ.P f 13 V3.1.1.ac V3.1.2) (z0:Ki Γ 109):qI Γ f:=by
 intro x hn
 refine Xi h (by simp) (by first|exact yf _|exact j9 _) fun C hC hm=>?_
 subst hC
 simp only [V3,qd,DC.ac]
 have hs:=(z0 x.name).b
 rw [hn] at hs
 simp only [xh.v,xh.cells]
 refine zgo ?_;repeat' first|exact zt|apply zan|intro hc
 all_goals first|(refine yK (xs:=[V.str x.val]) _ _ rfl ?_ ?_<;>first|rfl|(simp;done))
def YO:=qd Proofs.Tryz.f47 []
def XB (Γ:Env) (f:Nat):Prop:=∀ (y x:xh),EvN Γ f [y.v,.ro x.cells 0] (V.bool (y.name == x.name))
theorem wi {Γ:Env} {f:Nat} (h:Has Γ.P f 9 YO.1.1.ac YO.1.2) :XB Γ f:=by
 intro y x
 refine Qc h zsi zcl zcl fun C hC hm=>?_
 subst hC
 simp only [YO,qd,DC.ac]
 simp only [xh.v,xh.cells]
 exact zg
def QJ:=qd Proofs.Tryz.f108 []
def Jm (Γ:Env) (f:Nat):Prop:=∀ (xs:List xh) (g:Nat) (cap:List V) (p:xh→Bool) (hp:∀ x∈xs,EvN Γ g (xh.v x :: cap) (V.bool (p x))) (hcap:Qb cap) (hl:xs.length < 2 ^ 62),EvN Γ f [.sl 4 (xs.map xh.v),.clo g cap] (V.int (ja p 0 xs))
attribute [local go_sem] xh.cells xh.v in
theorem X8 {Γ:Env} {f:Nat} (h:Has Γ.P f 19 QJ.1.1.ac QJ.1.2) :Jm Γ f:=by
 intro xs g cap p hp hcap hl
 refine Qc h zsi zcl zcl fun C hC hm=>?_
 subst hC
 simp only [QJ,qd,DC.ac]
 have s1:∀ o,Yj o cap = cap:=fun o=>Yg o cap hcap
 have s2:∀ o B,Qw o B cap = True:=fun o B=>eq_true (Jz o B cap hcap)
 refine zgo ?_;repeat' first|exact zt|apply zan|intro hc
 refine Ji (ι:=Nat) (fun k=>k≤xs.length∧ja p k (xs.drop k) = ja p 0 xs) (fun k=>[(8,V.int k)]) (fun k=>xs.length - k) 0 (by omega) ⟨by simp,by simp⟩ zol (fun i hi=>by simp only [ovT,Xs,Nat.reduceEqDiff,reduceIte];(repeat' first|exact ae0|refine abY ?_ ?_|simp only [V.lt,ltL,and_self,and_true]|omega);exact YG _ _ hcap) (by simp only [Nat.reduceAdd,ovT,Xs,Nat.reduceEqDiff,reduceIte,KA,xA,aqC,u32,u33,u34,u35,u36,u37,u38,u39,and_self,and_true,true_and];first|rfl|exact Qy _ _ hcap) fun k hk K' hL=>?_
 obtain ⟨hk,hinv⟩:=hk
 simp only [ovT,Xs,Nat.reduceEqDiff,reduceIte]
 rcases hd:xs.drop k with _|⟨y,r⟩
 ·have:=Qu hd
  rw [hd] at hinv
  have e1:decide ((k:Int) < (((xs.map xh.v).length:Nat):Int)) = false:=by simp;omega
  (have zx:=e1);refine zgo ?_;repeat' first|exact zt|apply zan|intro hc
  refine Qg _ rfl ?_
  simp only [go_sem]
  rw [← hinv];rfl
 ·obtain ⟨hk,hget,hr⟩:=Qq hd
  rw [hd] at hinv
  have hw:=Qe (k:=k) (by omega)
  have e1:decide ((k:Int) < (((xs.map xh.v).length:Nat):Int)) = true:=by simp;omega
  have hpy:=hp y (zq hget)
  by_cases hy:p y = true
  ·rw [hy] at hpy
   (have zy0:=hpy.b;have zx:=za hget (za hw (za e1 (za s1 s2))));refine zgo ?_;repeat' first|exact zt|apply zan|intro hc
   refine Qg _ rfl ?_;simp only [go_sem]
   rw [← hinv];simp [ja,hy]
  ·have hy':p y = false:=by simpa using hy
   rw [hy'] at hpy
   (have zy0:=hpy.b;have zx:=za hget (za hw (za e1 (za s1 s2))));refine zgo ?_;repeat' first|exact zt|apply zan|intro hc
   refine hL _ (k + 1) zet ⟨by omega,?_⟩ (by omega) zoe
   rw [hr,← hinv,ja,if_neg hy]
def QE:=qd Proofs.Tryz.f48 []
def Q5 (Γ:Env) (f:Nat):Prop:=∀ (xs:List xh) (g:Nat) (cap:List V) (p:xh→Bool) (hp:∀ x∈xs,EvN Γ g (xh.v x :: cap) (V.bool (p x))) (hcap:Qb cap) (hl:xs.length < 2 ^ 62),EvN Γ f [.sl 4 (xs.map xh.v),.clo g cap] (V.bool (xs.any p))
theorem XJ {Γ:Env} {f:Nat} (h:Has Γ.P f 9 QE.1.1.ac QE.1.2) (z0:Jm Γ 108):Q5 Γ f:=by
 intro xs g cap p hp hcap hl
 refine Qc h zsi zcl zcl fun C hC hm=>?_
 subst hC
 simp only [QE,qd,DC.ac]
 have s1:∀ o,Yj o cap = cap:=fun o=>Yg o cap hcap
 have s2:∀ o B,Qw o B cap = True:=fun o B=>eq_true (Jz o B cap hcap)
 have hi:=(z0 xs g cap p hp hcap hl).b
 have e1:=abi p xs 0
 (have zx:=za s1 (za s2 e1));exact zg
abbrev WS:=List (List UInt8)
def isL (w:List UInt8):WS→Bool×WS
 | []=>(false,[])
 | x :: r=>if x = w then (true,r) else (false,x :: r)
def Ys:WS→List UInt8×WS
 | []=>([],[])
 | x :: r=>(x,r)
abbrev aaq (ws:WS):List V:=[.sl 1 (ws.map V.str)]
def KH:=qd Proofs.Tryz.f187 []
def WN (Γ:Env) (f:Nat):Prop:=∀ (ws:WS) (w:List UInt8) (hl:ws.length < 2 ^ 40),EvD Γ f [V.str w] (aaq ws) (V.bool (isL w ws).1) (aaq (isL w ws).2)
attribute [local go_sem] zb zE in
theorem agC {Γ:Env} {f:Nat} (h:Has Γ.P f 29 KH.1.1.ac KH.1.2) :WN Γ f:=by
 intro ws w hl
 refine JL h zsi zcl zc3 zc3 fun C hC hm=>?_
 subst hC
 simp only [KH,qd,DC.ac]
 rcases ws with _|⟨x,r⟩
 ·rw [show isL w [] = (false,[]) from rfl]
  refine zgo ?_;repeat' first|exact zt|apply zan|intro hc
  all_goals (refine J0 _ rfl rfl zcd ?_;simp only [go_sem];done)
 ·have hT:List.take (r.length + 1 - 1) (List.map V.str r) = List.map V.str r:=zi (by simp)
  have e1:(((List.map V.str (x :: r)).length:Int) == 0) = false:=by simp;omega
  have e3:((r.length:Int) + 1 == 0) = false:=by simp;omega
  by_cases hx:x = w
  ·subst hx
   have e2:isL x (x :: r) = (true,r):=by simp [isL]
   have e4:(x != x) = false:=by simp
   rw [e2]
   (have zx:=za e1 (za e3 (za e4 hT)));refine zgo ?_;repeat' first|exact zt|apply zan|intro hc
   all_goals (refine J0 _ rfl rfl zcd ?_;simp only [go_sem];done)
  ·have e2:isL w (x :: r) = (false,x :: r):=by simp [isL,hx]
   have e4:(x != w) = true:=by simpa using hx
   have e5:(x == w) = false:=by simpa using hx
   rw [e2]
   (have zx:=za e1 (za e3 (za e4 e5)));refine zgo ?_;repeat' first|exact zt|apply zan|intro hc
   all_goals (refine J0 _ rfl rfl zcd ?_;simp only [go_sem];done)
def VM:=qd Proofs.Tryz.f188 []
def J5 (Γ:Env) (f:Nat):Prop:=∀ (ws:WS) (hl:ws.length < 2 ^ 40),EvD Γ f [] (aaq ws) (V.str (Ys ws).1) (aaq (Ys ws).2)
attribute [local go_sem] zb zE in
theorem adW {Γ:Env} {f:Nat} (h:Has Γ.P f 25 VM.1.1.ac VM.1.2) :J5 Γ f:=by
 intro ws hl
 refine JL h zsi zcl zc3 zc3 fun C hC hm=>?_
 subst hC
 simp only [VM,qd,DC.ac]
 rcases ws with _|⟨x,r⟩
 ·rw [show Ys [] = ([],[]) from rfl]
  refine zgo ?_;repeat' first|exact zt|apply zan|intro hc
  all_goals (refine J0 _ rfl rfl zcd ?_;simp only [go_sem];done)
 ·have hT:List.take (r.length + 1 - 1) (List.map V.str r) = List.map V.str r:=zi (by simp)
  have e3:((r.length:Int) + 1 == 0) = false:=by simp;omega
  have e2:Ys (x :: r) = (x,r):=rfl
  rw [e2]
  (have zx:=za e3 hT);refine zgo ?_;repeat' first|exact zt|apply zan|intro hc
  all_goals (refine J0 _ rfl rfl zcd ?_;simp only [go_sem];done)
abbrev alq:WS:=[[],[116,114,97,110,115,112,111,114,116],[115,105,103,110],[98,97,99,107,117,112],[99,111,100,101]]
def jc (x:List UInt8):Nat→WS→Int
 | _,[]=>-1
 | k,y :: r=>if x = y then k else jc x (k + 1) r
def agp (w:List UInt8):Int:=if w = [] then 0 else max 0 (jc w 0 alq)
def KG:=qd Proofs.Tryz.f295 []
def yu (Γ:Env) (f:Nat):Prop:=EvW Γ f [] 1 (alq.map V.str)
theorem agB {Γ:Env} {f:Nat} (h:Has Γ.P f 2 KG.1.1.ac KG.1.2) :yu Γ f:=by
 refine Xi h (by simp) (by first|exact yf _|exact j9 _) fun C hC hm=>?_
 subst hC
 simp only [KG,qd,DC.ac]
 refine zgo ?_;repeat' first|exact zt|apply zan|intro hc
 all_goals (refine yK (xs:=alq.map V.str) _ _ rfl ?_ ?_<;>first|rfl|(simp;done))
def J4:=qd Proofs.Tryz.f78 []
def JY (Γ:Env) (f:Nat):Prop:=∀ (l:WS) (x:List UInt8) (hl:l.length < 2 ^ 62),EvN Γ f [.sl 1 (l.map V.str),V.str x] (V.int (jc x 0 l))
theorem jd {Γ:Env} {f:Nat} (h:Has Γ.P f 19 J4.1.1.ac J4.1.2) :JY Γ f:=by
 intro l x hl
 refine Qc h zsi zcl zcl fun C hC hm=>?_
 subst hC
 simp only [J4,qd,DC.ac]
 refine zgo ?_;repeat' first|exact zt|apply zan|intro hc
 refine Ji (ι:=Nat) (fun k=>k≤l.length∧jc x k (l.drop k) = jc x 0 l) (fun k=>[(8,V.int k)]) (fun k=>l.length - k) 0 (by omega) ⟨by simp,by simp⟩ zol zlt zet fun k hk K' hL=>?_
 obtain ⟨hk,hinv⟩:=hk
 simp only [ovT,Xs,Nat.reduceEqDiff,reduceIte]
 rcases hd:l.drop k with _|⟨y,r⟩
 ·have:=Qu hd
  rw [hd] at hinv
  refine zgo ?_;repeat' first|exact zt|apply zan|intro hc
  refine Qg _ rfl ?_
  simp only [go_sem]
  rw [← hinv];rfl
 ·obtain ⟨hk,hget,hr⟩:=Qq hd
  rw [hd] at hinv
  have hw:=Qe (k:=k) (by omega)
  (have zx:=za hget hw);refine zgo ?_;repeat' first|exact zt|apply zan|intro hc
  ·refine Qg _ rfl ?_
   simp only [go_sem]
   rw [← hinv];simp [jc,hc]
  ·refine hL _ (k + 1) zet ⟨by omega,?_⟩ (by omega) (fun a ha=>rfl)
   rw [hr,← hinv];simp [jc,hc]
def jP:=qd Proofs.Tryz.f249 []
def xT (Γ:Env) (f:Nat):Prop:=∀ (w:List UInt8),EvN Γ f [V.str w] (V.int (agp w))
theorem ah3 {Γ:Env} {f:Nat} (h:Has Γ.P f 9 jP.1.1.ac jP.1.2) (z0:yu Γ 295) (z1:JY Γ 78):xT Γ f:=by
 intro w
 refine Qc h zsi zcl zcl fun C hC hm=>?_
 subst hC
 simp only [jP,qd,DC.ac]
 have hix:=(z1 alq w (by decide)).b
 simp only [zE,zH] at hix
 by_cases hw:w = []
 ·subst hw
  refine zgo ?_;repeat' first|exact zt|apply zan|intro hc
  all_goals first|exact zr|(refine Qg _ rfl ?_;simp only [go_sem];rfl)
 ·have e1:(w == []) = false:=by simpa using hw
  have e2:agp w = max 0 (jc w 0 alq):=by rw [agp,if_neg hw]
  have e3:([V.int (jc w 0 alq)].all (yQ IntKind.i64)) = true:=rfl
  have e4:(if 0 < jc w 0 alq then jc w 0 alq else 0) = agp w:=by rw [e2];split<;>omega
  (have zx:=za e1 (za e3 e4));exact zg
theorem atA {w:List UInt8} {n:Int} (h:aa6 w = (n,true)):Lib.atoiAll w = .ok n∧yo w = n:=by
 obtain ⟨h1,h2,h3⟩:=arV h
 have e1:=agi h2 (by omega:n < 1000000000000000000)
 have e2:=aqu h2 (by omega:n < 1000000000000000000)
 rw [h1] at e1 e2
 exact ⟨e1,e2⟩
def anJ (c:UInt8):Bool:=!(decide (c.toNat < 48∨57 < c.toNat))
theorem aki:∀ (s:List UInt8) (a:Int),(aiQ a s).isSome = s.all anJ
 | [],a=>rfl
 | c :: r,a=>by
   rw [aiQ]
   split
   ·rename_i h;simp [anJ,h]
   ·rename_i h;rw [aki r,List.all_cons];simp [anJ,h]
theorem atB {s:List UInt8} (h:s.all anJ = false):aa6 s = (0,false):=by
 rw [aa6];split
 ·rfl
 ·have:=aki s 0
  rw [h] at this
  cases hn:aiQ 0 s with
  | none=>rfl
  | some n=>rw [hn] at this;cases this
theorem avO {s:List UInt8} (h:s.all anJ = true) (hb:¬ (s = []∨15 < s.length∨(1 < s.length∧s[0]? = some 48))):∃ n,aa6 s = (n,true):=by
 rw [aa6,if_neg hb]
 have:=aki s 0
 rw [h] at this
 cases hn:aiQ 0 s with
 | none=>rw [hn] at this;cases this
 | some n=>exact ⟨n,rfl⟩
theorem aoa (c:UInt8) (k:Nat) (hk:k < 256):((c.toNat:Int) == (k:Int)) = (c == UInt8.ofNat k):=by
 rw [Zq];simp only [kx]
 constructor
 ·intro h;apply UInt8.toNat_inj.1;rw [UInt8.toNat_ofNat',bk hk];omega
 ·intro h;rw [h,UInt8.toNat_ofNat',bk hk]
def jO:=qd Proofs.Tryz.f248 [zhn 5]
def xS (Γ:Env) (f:Nat):Prop:=∀ (s:List UInt8) (hs:s.length < 2 ^ 30),EvN Γ f [V.str s] (amM (aa6 s))
attribute [local go_sem] List.length_cons QS in
theorem ah2 {Γ:Env} {f:Nat} (h:Has Γ.P f 47 jO.1.1.ac jO.1.2) (z0:xR Γ 234):xS Γ f:=by
 intro s hs
 refine Qc h zsi (by simp only [amM,V.closed,Qb,V.noSl,Wi,and_self]) (by simp only [amM,V.closed,Qb,V.noSl,Wi,and_self]) fun C hC hm=>?_
 subst hC
 simp only [jO,qd,DC.ac]
 have hat:=(z0 s (by omega)).b
 refine zgo ?_;repeat' first|exact zt|apply zan|intro hc
 refine Qj (ι:=Nat) (fun k=>k≤s.length∧(s.drop k).all anJ = s.all anJ) (fun k=>QS [(0,V.str s),(9,.hd 0 0 s.length),(10,V.int s.length),(11,V.int k)] [(0,.buf false 1 (s.map fun c=>V.sc (.int .u8 c.toNat)))] 1) (fun k=>s.length - k) 0 ⟨by omega,by simp⟩ (Qd [(0,3000)]) (zwg [(0,3000)]) fun k hk K' hL=>?_
 obtain ⟨hk,hinv⟩:=hk
 rcases hd:s.drop k with _|⟨c,r⟩
 ·have hkl:=Qu hd
  rw [hd] at hinv
  have hall:s.all anJ = true:=hinv.symm
  have e1:decide ((k:Int) < ((s.length:Nat):Int)) = false:=by simp;omega
  by_cases hbad:s = []∨15 < s.length∨(1 < s.length∧s[0]? = some 48)
  ·have hr:aa6 s = (0,false):=by rw [aa6,if_pos hbad]
   rw [hr]
   rcases s with _|⟨c,r⟩
   ·(have zx:=e1);refine zgo ?_;repeat' first|exact zt|apply zan|intro hc
    all_goals (simp only [amM];refine Qg _ rfl ?_;simp only [go_sem];done)
   ·have e2:(c :: r == []) = false:=rfl
    simp only [List.length_cons] at e1
    have e3:=aoa c 48 (by decide)
    have e3':((c.toNat:Int) == 48) = (c == 48):=e3
    have e5:decide (((r.length + 1:Nat):Int) > 1) = decide (1 < (c :: r).length):=by apply decide_eq_decide.2;simp only [List.length_cons];omega
    have e6:decide (((r.length + 1:Nat):Int) > 15) = decide (15 < (c :: r).length):=by apply decide_eq_decide.2;simp only [List.length_cons];omega
    by_cases h48:c = 48∧1 < (c :: r).length
    ·have e4:(c == 48) = true:=by simpa using h48.1
     rw [e4] at e3'
     rw [zn h48.2] at e5
     (have zx:=za e1 (za e2 (za e3' e5)));refine zgo ?_;repeat' first|exact zt|apply zan|intro hc
     all_goals (simp only [amM];refine Qg _ rfl ?_;simp only [go_sem];done)
    ·have h15:15 < (c :: r).length:=by
      rcases hbad with h|h|⟨h,h2⟩
      ·cases h
      ·exact h
      ·exact absurd ⟨by simpa using h2,h⟩ h48
     rw [zn h15] at e6
     have e7:decide (1 < (c :: r).length) = true:=zn (by omega)
     have e4:(c == 48) = false:=by
      simp only [kM,ne_eq];intro h;exact h48 ⟨h,by omega⟩
     rw [e4] at e3'
     (have zx:=za e1 (za e2 (za e3' e6)));refine zgo ?_;repeat' first|exact zt|apply zan|intro hc
     all_goals (simp only [amM];refine Qg _ rfl ?_;simp only [go_sem];done)
  ·obtain ⟨n,hn⟩:=avO hall hbad
   obtain ⟨v1,v2⟩:=atA hn
   have hat2:EvB C.env 234 [V.str s] (.tup [V.int n,.sc .nilIface]) none:=by
    have:=hat
    rw [v2] at this
    simpa only [aqF,v1] using this
   rw [hn]
   rcases s with _|⟨c,r⟩
   ·exact absurd (.inl rfl) hbad
   ·have e2:(c :: r == []) = false:=rfl
    simp only [List.length_cons] at e1
    have e3':((c.toNat:Int) == 48) = (c == 48):=aoa c 48 (by decide)
    have e5:decide (((r.length + 1:Nat):Int) > 1) = decide (1 < (c :: r).length):=by apply decide_eq_decide.2;simp only [List.length_cons];omega
    have e6:decide (((r.length + 1:Nat):Int) > 15) = false:=by apply zp;intro h;exact hbad (.inr (.inl (by simp only [List.length_cons];omega)))
    by_cases h48:c = 48
    ·have e4:(c == 48) = true:=by simpa using h48
     rw [e4] at e3'
     have e7:decide (1 < (c :: r).length) = false:=by
      apply zp;intro h;exact hbad (.inr (.inr ⟨h,by simp [h48]⟩))
     rw [e7] at e5
     (have zx:=za e1 (za e2 (za e3' (za e5 e6))));refine zgo ?_;repeat' first|exact zt|apply zan|intro hc
     all_goals (simp only [amM];refine Qg _ rfl ?_;simp only [go_sem];done)
    ·have e4:(c == 48) = false:=by simpa using h48
     rw [e4] at e3'
     (have zx:=za e1 (za e2 (za e3' e6)));refine zgo ?_;repeat' first|exact zt|apply zan|intro hc
     all_goals (simp only [amM];refine Qg _ rfl ?_;simp only [go_sem];done)
 ·obtain ⟨hk',hget,hr⟩:=Qq hd
  rw [hd] at hinv
  have hw:=Qe (k:=k) (by omega)
  have e1:decide ((k:Int) < ((s.length:Nat):Int)) = true:=by simp;omega
  have hno:anJ c = false→aa6 s = (0,false):=fun h=>atB (by rw [← hinv,List.all_cons,h];rfl)
  rcases h1:decide ((c.toNat:Int) < 48) with _|_
  ·rcases h2:decide ((c.toNat:Int) > 57) with _|_
   ·have hdg:anJ c = true:=by
     simp only [zF] at h1 h2
     simp only [anJ,Zp,zF];omega
    (have zx:=za e1 (za hw (za hget (za h1 h2))));refine zgo ?_;repeat' first|exact zt|apply zan|intro hc
    all_goals first
     | exact hL _ (k + 1) (Qd [(0,0)]) ⟨by omega,by rw [hr,← hinv,List.all_cons,hdg];rfl⟩ (by omega) (zwg [(0,0)])
   ·have hdg:anJ c = false:=by
     simp only [zC] at h2
     simp only [anJ,Bool.not_eq_false',zC];omega
    rw [hno hdg]
    (have zx:=za e1 (za hw (za hget (za h1 h2))));refine zgo ?_;repeat' first|exact zt|apply zan|intro hc
    all_goals (simp only [amM];refine Qg _ rfl ?_;simp only [go_sem];done)
  ·have hdg:anJ c = false:=by
    simp only [zC] at h1
    simp only [anJ,Bool.not_eq_false',zC];omega
   rw [hno hdg]
   (have zx:=za e1 (za hw (za hget h1)));refine zgo ?_;repeat' first|exact zt|apply zan|intro hc
   all_goals (simp only [amM];refine Qg _ rfl ?_;simp only [go_sem];done)
def yW:=qd Proofs.Tryz.f190 []
def j7 (Γ:Env) (f:Nat):Prop:=∀ (ws:WS) (nx:Nat) (hnx:J5 Γ nx) (hl:ws.length < 2 ^ 40) (hs:∀ x∈ws,x.length < 2 ^ 30),EvM Γ f nx (aaq ws) (amM (aa6 (Ys ws).1)) (aaq (Ys ws).2)
theorem aiS {Γ:Env} {f:Nat} (h:Has Γ.P f 9 yW.1.1.ac yW.1.2) (z0:xS Γ 248):j7 Γ f:=by
 intro ws nx hnx hl hs
 refine aig h (by simp) (by simp only [amM,V.closed,Qb,and_self]) (by first|exact QG _ _|simp only [V.closed,Qb,and_self,and_true,true_and]) (by first|exact QG _ _|simp only [V.closed,Qb,and_self,and_true,true_and]) fun C hC hm=>?_
 subst hC
 simp only [yW,qd,DC.ac]
 have n1:=hnx ws hl
 have hb:(Ys ws).1.length < 2 ^ 30:=by
  rcases ws with _|⟨x,r⟩
  ·simp [Ys]
  ·exact hs x (by simp)
 have n2:=(z0 (Ys ws).1 hb).b
 generalize Ys ws = p at *
 obtain ⟨w,r⟩:=p
 simp only at n1 n2 ⊢
 generalize aa6 w = q at *
 obtain ⟨v,ok⟩:=q
 simp only [amM] at n2 ⊢
 refine zgo ?_;repeat' first|exact zt|apply zan|intro hc
 all_goals (refine J0 _ rfl rfl zcd ?_;simp only [go_sem];done)
def jN:=qd Proofs.Tryz.f191 []
def qn (Γ:Env) (f:Nat):Prop:=∀ (ws:WS) (nx:Nat) (hnx:J5 Γ nx) (hl:ws.length < 2 ^ 40),EvM Γ f nx (aaq ws) (.tup [V.int (agp (Ys ws).1),V.bool (decide (agp (Ys ws).1 > 0))]) (aaq (Ys ws).2)
theorem ah1 {Γ:Env} {f:Nat} (h:Has Γ.P f 11 jN.1.1.ac jN.1.2) (z0:xT Γ 249):qn Γ f:=by
 intro ws nx hnx hl
 refine aig h (by simp) (by simp only [V.closed,Qb,V.noSl,Wi,and_self,and_true,true_and]) (by first|exact QG _ _|simp only [V.closed,Qb,and_self,and_true,true_and]) (by first|exact QG _ _|simp only [V.closed,Qb,and_self,and_true,true_and]) fun C hC hm=>?_
 subst hC
 simp only [jN,qd,DC.ac]
 have n1:=hnx ws hl
 generalize Ys ws = p at *
 obtain ⟨w,r⟩:=p
 simp only at n1 ⊢
 have n2:=(z0 w).b
 generalize agp w = q at *
 refine zgo ?_;repeat' first|exact zt|apply zan|intro hc
 all_goals (refine J0 _ rfl rfl zcd ?_;simp only [go_sem];done)
def Jb:=qd Proofs.Tryz.f161 []
def JR (Γ:Env) (f:Nat):Prop:=∀ (xs:List Qo) (g:Nat) (cap:List V) (p:Qo→Bool) (hp:∀ x∈xs,EvN Γ g (Qo.v x :: cap) (V.bool (p x))) (hcap:Qb cap) (hl:xs.length < 2 ^ 62),EvN Γ f [.sl 8 (xs.map Qo.v),.clo g cap] (V.int (ja p 0 xs))
attribute [local go_sem] Qo.cells Qo.v in
theorem Vu {Γ:Env} {f:Nat} (h:Has Γ.P f 19 Jb.1.1.ac Jb.1.2) :JR Γ f:=by
 intro xs g cap p hp hcap hl
 refine Qc h zsi zcl zcl fun C hC hm=>?_
 subst hC
 simp only [Jb,qd,DC.ac]
 have s1:∀ o,Yj o cap = cap:=fun o=>Yg o cap hcap
 have s2:∀ o B,Qw o B cap = True:=fun o B=>eq_true (Jz o B cap hcap)
 refine zgo ?_;repeat' first|exact zt|apply zan|intro hc
 refine Ji (ι:=Nat) (fun k=>k≤xs.length∧ja p k (xs.drop k) = ja p 0 xs) (fun k=>[(8,V.int k)]) (fun k=>xs.length - k) 0 (by omega) ⟨by simp,by simp⟩ zol (fun i hi=>by simp only [ovT,Xs,Nat.reduceEqDiff,reduceIte];(repeat' first|exact ae0|refine abY ?_ ?_|simp only [V.lt,ltL,and_self,and_true]|omega);exact YG _ _ hcap) (by simp only [Nat.reduceAdd,ovT,Xs,Nat.reduceEqDiff,reduceIte,KA,xA,aqC,u32,u33,u34,u35,u36,u37,u38,u39,and_self,and_true,true_and];first|rfl|exact Qy _ _ hcap) fun k hk K' hL=>?_
 obtain ⟨hk,hinv⟩:=hk
 simp only [ovT,Xs,Nat.reduceEqDiff,reduceIte]
 rcases hd:xs.drop k with _|⟨y,r⟩
 ·have:=Qu hd
  rw [hd] at hinv
  have e1:decide ((k:Int) < (((xs.map Qo.v).length:Nat):Int)) = false:=by simp;omega
  (have zx:=e1);refine zgo ?_;repeat' first|exact zt|apply zan|intro hc
  refine Qg _ rfl ?_
  simp only [go_sem]
  rw [← hinv];rfl
 ·obtain ⟨hk,hget,hr⟩:=Qq hd
  rw [hd] at hinv
  have hw:=Qe (k:=k) (by omega)
  have e1:decide ((k:Int) < (((xs.map Qo.v).length:Nat):Int)) = true:=by simp;omega
  have hpy:=hp y (zq hget)
  by_cases hy:p y = true
  ·rw [hy] at hpy
   (have zy0:=hpy.b;have zx:=za hget (za hw (za e1 (za s1 s2))));refine zgo ?_;repeat' first|exact zt|apply zan|intro hc
   refine Qg _ rfl ?_;simp only [go_sem]
   rw [← hinv];simp [ja,hy]
  ·have hy':p y = false:=by simpa using hy
   rw [hy'] at hpy
   (have zy0:=hpy.b;have zx:=za hget (za hw (za e1 (za s1 s2))));refine zgo ?_;repeat' first|exact zt|apply zan|intro hc
   refine hL _ (k + 1) zet ⟨by omega,?_⟩ (by omega) zoe
   rw [hr,← hinv,ja,if_neg hy]
def QW:=qd Proofs.Tryz.f79 []
def Jw (Γ:Env) (f:Nat):Prop:=∀ (xs:List Qo) (g:Nat) (cap:List V) (p:Qo→Bool) (hp:∀ x∈xs,EvN Γ g (Qo.v x :: cap) (V.bool (p x))) (hcap:Qb cap) (hl:xs.length < 2 ^ 62),EvN Γ f [.sl 8 (xs.map Qo.v),.clo g cap] (V.bool (xs.any p))
theorem WI {Γ:Env} {f:Nat} (h:Has Γ.P f 9 QW.1.1.ac QW.1.2) (z0:JR Γ 161):Jw Γ f:=by
 intro xs g cap p hp hcap hl
 refine Qc h zsi zcl zcl fun C hC hm=>?_
 subst hC
 simp only [QW,qd,DC.ac]
 have s1:∀ o,Yj o cap = cap:=fun o=>Yg o cap hcap
 have s2:∀ o B,Qw o B cap = True:=fun o B=>eq_true (Jz o B cap hcap)
 have hi:=(z0 xs g cap p hp hcap hl).b
 have e1:=abi p xs 0
 (have zx:=za s1 (za s2 e1));exact zg
theorem ajL (x:List UInt8):∀ (l:List (List UInt8)) (k:Nat),jc x k l = ja (fun y=>decide (x = y)) k l
 | [],_=>rfl
 | y :: r,k=>by
   rw [jc,ja,ajL x r]
   by_cases h:x = y<;>simp [h]
def JF:=qd Proofs.Tryz.f34 []
def Yn (Γ:Env) (f:Nat):Prop:=∀ (l:List (List UInt8)) (x:List UInt8) (hl:l.length < 2 ^ 62),EvN Γ f [.sl 1 (l.map V.str),V.str x] (V.bool (l.any fun y=>decide (x = y)))
theorem Kv {Γ:Env} {f:Nat} (h:Has Γ.P f 9 JF.1.1.ac JF.1.2) (z0:JY Γ 78):Yn Γ f:=by
 intro l x hl
 refine Qc h zsi zcl zcl fun C hC hm=>?_
 subst hC
 simp only [JF,qd,DC.ac]
 have hi:=(z0 l x hl).b
 rw [ajL] at hi
 have e1:=abi (fun y=>decide (x = y)) l 0
 (have zx:=e1);exact zg
def aj7 (f x:Qo):Bool:=x.subj == f.subj && (x.kind == f.kind && ((x.alg == f.alg && x.bits == f.bits) && x.num == f.num))
def V1:=qd Proofs.Tryz.f80 []
def qG (Γ:Env) (f:Nat):Prop:=∀ (x f0:Qo),EvN Γ f [x.v,.ro f0.cells 0] (V.bool (aj7 f0 x))
theorem aec {Γ:Env} {f:Nat} (h:Has Γ.P f 30 V1.1.1.ac V1.1.2) :qG Γ f:=by
 intro x f0
 refine Qc h zsi zcl zcl fun C hC hm=>?_
 subst hC
 simp only [V1,qd,DC.ac]
 obtain ⟨a1,a2,a3,a4,a5,a6,a7,a8⟩:=x
 obtain ⟨b1,b2,b3,b4,b5,b6,b7,b8⟩:=f0
 simp only [aj7,Qo.v,Qo.cells]
 rcases c1:a2 == b2 with _|_<;>rcases c2:a3 == b3 with _|_<;>rcases c3:a4 == b4 with _|_<;>rcases c4:a5 == b5 with _|_<;>rcases c5:a6 == b6 with _|_
 all_goals
  (have zx:=za c1 (za c2 (za c3 (za c4 c5))));exact zg
def KQ:=qd Proofs.Tryz.f35 []
def yy (Γ:Env) (f:Nat):Prop:=∀ (l:List Qo) (f0:Qo) (hl:l.length < 2 ^ 62),EvN Γ f [.sl 8 (l.map Qo.v),f0.v] (V.bool (l.any (aj7 f0)))
theorem agK {Γ:Env} {f:Nat} (h:Has Γ.P f 8 KQ.1.1.ac KQ.1.2) (z0:qG Γ 80) (z1:Jw Γ 79):yy Γ f:=by
 intro l f0 hl
 refine Qc h zsi zcl zcl fun C hC hm=>?_
 subst hC
 simp only [KQ,qd,DC.ac]
 have hi:=(z1 l 80 [.ro f0.cells 0] (aj7 f0) (fun x _=>z0 x f0) (by simp only [Qo.cells,V.closed,Qb,and_self]) hl).b
 simp only [Qo.v,Qo.cells] at hi ⊢
 exact zg
theorem ajM (l:List Qa) (num:Int) (fs:List Nat) (day age:Int):(qX l num fs day age).length≤fs.length:=by
 have hok:=anK l day age fs fs.length (zj _)
 rw [zG] at hok
 rw [qX,xw]
 have h1:=List.length_filterMap_le (acL l num) (akK l day age fs).2
 have h2:=hok.len
 have h3:=hok.le
 omega
def JN (l:List Qa) (fs:List Nat):List Qa:=fs.filterMap fun i=>l[i]?
theorem afx {l:List Qa}:∀ {fs:List Nat},(∀ i∈fs,i < l.length)→(JN l fs).length = fs.length
 | [],_=>rfl
 | i :: r,h=>by
   have ih:=afx (fs:=r) fun j hj=>h j (kp _ hj)
   have hi:=h i kD
   rw [JN,List.filterMap_cons,zd hi,List.length_cons,List.length_cons]
   rw [JN] at ih
   omega
def chS (l:List Qa) (fs:List Nat) (k:Nat):St:=QS [(0,.sl 11 (l.map Qa.v)),(5,.hd 0 0 k),(8,.sl 1 (QL fs)),(9,V.int fs.length),(10,V.int k)] [(0,.buf true 11 ((JN l (fs.take k)).map Qa.v))] 1
def V2:=qd Proofs.Tryz.f31 []
def qH (Γ:Env) (f:Nat):Prop:=∀ (l:List Qa) (fs:List Nat) (hb:∀ i∈fs,i < l.length) (hn:fs.length < 2 ^ 30),EvW Γ f [.sl 11 (l.map Qa.v),.sl 1 (QL fs)] 11 ((JN l fs).map Qa.v)
theorem aed {Γ:Env} {f:Nat} (h:Has Γ.P f 23 V2.1.1.ac V2.1.2) :qH Γ f:=by
 intro l fs hb hn
 refine Xi h (by simp) (by first|exact yf _|exact j9 _|(intro x hx;obtain ⟨y,_,rfl⟩:=kc.1 hx;simp only [Qa.v,Qa.cells,V.noSl,Wi,and_self])) fun C hC hm=>?_
 subst hC
 simp only [V2,qd,DC.ac]
 have hpc:(QL fs).length = fs.length:=zb _
 repeat' (first|(refine zsk ?_;intro K' hK)|refine zsp ?_|(refine zsc ?_ ?_<;>intro hc<;>first|exact znh|try simp only [znz] at hc)|simp (maxSteps:=1000000) only [go_sem,hpc]|(refine hK _ ?_;clear hK K')|apply zan|exact zsq|fail)
 refine Qj (ι:=Nat) (fun k=>k≤fs.length) (fun k=>chS l fs k) (fun k=>fs.length - k) 0 (zJ _) (Qd [(0,1000)]) (Qh [(0,1000)] (by simp only [go_sem,zwl,chS,zb]<;>exact zcc) (by simp only [go_sem,zwl,chS,JN,List.take_zero,List.filterMap_nil,zH]<;>exact zcc) (by simp [chS,Qd]) (by simp [chS];omega) (by omega)) fun k hk K' hL=>?_
 have hck:=afx (l:=l) (fs:=fs.take k) fun i hi=>hb i (ky hi)
 rw [zU,Zg hk] at hck
 rcases hdr:fs.drop k with _|⟨i,r⟩
 ·have hkl:=Qu hdr
  have e1:decide ((k:Int) < (fs.length:Int)) = false:=by simp;omega
  obtain rfl:k = fs.length:=by omega
  have htk:fs.take fs.length = fs:=zG
  simp only [chS,htk] at hck ⊢
  have htl:List.take fs.length ((JN l fs).map Qa.v) = (JN l fs).map Qa.v:=zi (by simp;omega)
  repeat' (first|(refine zsk ?_;intro K' hK)|refine zsp ?_|(refine zsc ?_ ?_<;>intro hc<;>first|exact znh|try simp only [znz] at hc)|simp (maxSteps:=1000000) only [go_sem,QS,e1]|(refine hK _ ?_;clear hK K')|apply zan|exact zsq|fail)
  have hcl:fs.length = ((JN l fs).map Qa.v).length:=by rw [zb,hck]
  all_goals first|(refine yK (xs:=(JN l fs).map Qa.v) _ _ rfl ?_ ?_<;>first|exact hcl|exact hcl.symm|rfl|(simp;done))
 obtain ⟨hk',hget,hr⟩:=Qq hdr
 have hw:=Qe (k:=k) (by omega)
 have e1:decide ((k:Int) < (fs.length:Int)) = true:=by simp;omega
 obtain ⟨f,hf⟩:∃ f,l[i]? = some f:=⟨_,zd (hb i (zq hget))⟩
 have hvi:=Uw hget
 have vf:(l.map Qa.v)[i]? = some f.v:=by rw [zo,hf];rfl
 have hnx:JN l (fs.take (k + 1)) = JN l (fs.take k)++[f]:=by
  rw [JN,zB,hget,bg]
  simp [JN,hf]
 simp only [chS]
 generalize JN l (fs.take k) = out at *
 have hol:(out.map Qa.v).length = k:=by rw [zb,hck]
 have htl:List.take k (out.map Qa.v) = out.map Qa.v:=zi (by omega)
 simp only [Qa.v,Qa.cells] at vf
 repeat' (first|(refine zsk ?_;intro K' hK)|refine zsp ?_|(refine zsc ?_ ?_<;>intro hc<;>first|exact znh|try simp only [znz] at hc)|simp (maxSteps:=1000000) only [go_sem,QS,e1,hw,hvi,vf,hol,htl,Int.toNat_natCast,zb]|(refine hK _ ?_;clear hK K')|apply zan|exact zsq|fail)
 all_goals exact hL _ (k + 1) (Qd [(0,10001)]) (by omega) (by omega) (Qh [(0,10001)] (by simp only [go_sem,zwl,chS,zb]<;>exact zcc) (by simp only [go_sem,zwl,chS,hnx,kj,zE,zH,Qa.v,Qa.cells]<;>exact zcc) (by simp [chS,Qd]) (by simp [chS];omega) (by omega))
def alQ (l:List Qa) (day age:Int) (f:Qo) (e:JG):Bool:=(f.text == [] || e.hosts.any fun y=>decide (f.text = y)) && (qX l e.num e.finds day age).any (aj7 f)
def yI (l:List Qa) (gap day age:Int) (f:Qo):Bool:=(Xj l gap).any (alQ l day age f)
def adK (l:List Qa) (gap day age:Int) (f:Qo):V:=if XW l gap day age = 0 then .tup [V.bool (yI l gap day age f),V.int 0] else .tup [V.bool false,V.int (XW l gap day age)]
def hoS (l:List Qa) (gap day age:Int) (f:Qo) (k:Nat):St:=QS [(9,.ptr 0 0),(13,.sl 1 ((YS l gap day age).map fcv)),(29,.sl 4 ((Xj l gap).map JG.v)),(30,V.int (Xj l gap).length),(31,V.int k)] [(0,.box true f.cells)] 1
def UN:=qd Proofs.Tryz.f13 [zhn 18]
def Ug (Γ:Env) (f:Nat):Prop:=∀ (l:List Qa) (gap day age:Int) (f0:Qo) (hl:l.length < 2 ^ 30) (hz:∀ x∈l,x.Sz),EvN Γ f [.sl 11 (l.map Qa.v),V.int gap,V.int day,V.int age,f0.v] (adK l gap day age f0)
attribute [local go_sem] QS in
theorem afm {Γ:Env} {f:Nat} (h:Has Γ.P f 55 UN.1.1.ac UN.1.2) (z0:Uf Γ 25) (z1:Yn Γ 34) (z2:yy Γ 35):Ug Γ f:=by
 intro l gap day age f0 hl hz
 refine Qc h zsi (by unfold adK;split<;>simp only [V.closed,Qb,V.noSl,Wi,and_self]) (by unfold adK;split<;>simp only [V.closed,Qb,V.noSl,Wi,and_self]) fun C hC hm=>?_
 subst hC
 simp only [UN,qd,DC.ac]
 have g0:=(z0 l gap day age hl hz).b
 by_cases hE:XW l gap day age = 0
 rotate_left
 ·rw [adK,if_neg hE]
  rw [adO,if_neg hE] at g0
  have e01:(XW l gap day age != 0) = true:=by simpa using hE
  generalize XW l gap day age = er at *
  simp only [Qo.v,Qo.cells]
  (have zx:=e01);exact zg
 rw [adK,if_pos hE]
 rw [adO,if_pos hE] at g0
 have e00:((0:Int) != 0) = false:=by decide
 have hel:((Xj l gap).map JG.v).length = (Xj l gap).length:=zb _
 have hok:=fun e (he:e∈Xj l gap)=>ail he
 have hen:=aeo l gap
 have hfl:(YS l gap day age).length = (Xj l gap).length:=zb _
 simp only [Qo.v,Qo.cells]
 (have zx:=za e00 hel);refine zgo ?_;repeat' first|exact zt|apply zan|intro hc
 refine Qj (ι:=Nat) (fun k=>k≤(Xj l gap).length∧((Xj l gap).take k).any (alQ l day age f0) = false) (fun k=>hoS l gap day age f0 k) (fun k=>(Xj l gap).length - k) 0 ⟨zJ _,rfl⟩ (Qd []) (Qh [] (by simp only [go_sem,zwl,hoS,zb]<;>exact zcc) (by simp only [go_sem,zwl,hoS,Qo.cells]<;>exact zcc) (by simp [hoS,Qd]) (by simp [hoS]) (by omega)) fun k hk K' hL=>?_
 obtain ⟨hk,hno⟩:=hk
 rcases hdr:(Xj l gap).drop k with _|⟨e,r⟩
 ·have hkl:=Qu hdr
  have e1:decide ((k:Int) < ((Xj l gap).length:Int)) = false:=by simp;omega
  rw [zi hkl] at hno
  rw [yI,hno]
  simp only [hoS]
  (have zx:=e1);exact zg
 obtain ⟨hk',hget,hr⟩:=Qq hdr
 have hw:=Qe (k:=k) (by omega)
 have e1:decide ((k:Int) < ((Xj l gap).length:Int)) = true:=by simp;omega
 obtain ⟨o1,o2,o3,o4⟩:=hok e (zq hget)
 have hfs:=ajM l e.num e.finds day age
 have p1:=(z2 (qX l e.num e.finds day age) f0 (by omega)).b
 have p2:=(z1 e.hosts f0.text (by omega)).b
 have vx:((Xj l gap).map JG.v)[k]? = some e.v:=by rw [zo,hget];rfl
 have vf:((YS l gap day age).map fcv)[k]? = some (.sl 8 ((qX l e.num e.finds day age).map Qo.v)):=by rw [zo,YS,zo,hget];rfl
 have hnx:alQ l day age f0 e = false→((Xj l gap).take (k + 1)).any (alQ l day age f0) = false:=fun h=>by
  rw [zB,hget,List.any_append,hno];simp [h]
 have hys:alQ l day age f0 e = true→yI l gap day age f0 = true:=fun h=>kz.2 ⟨e,zq hget,h⟩
 rw [alQ] at hnx hys
 simp only [hoS,Qo.cells]
 simp only [JG.v,Qo.v,Qo.cells] at vx p1
 rcases c1:(f0.text == []) with _|_
 ·rcases c2:(e.hosts.any fun y=>decide (f0.text = y)) with _|_
  ·rw [c1,c2] at hnx
   rw [c2] at p2
   (have zx:=za e1 (za hw (za c1 (za vx vf))));refine zgo ?_;repeat' first|exact zt|apply zan|intro hc
   all_goals exact hL _ (k + 1) (Qd []) ⟨by omega,hnx rfl⟩ (by omega) (Qh [] (by simp only [go_sem,zwl,hoS,zb]<;>exact zcc) (by simp only [go_sem,zwl,hoS,Qo.cells]<;>exact zcc) (by simp [hoS,Qd]) (by simp [hoS]) (by omega))
  ·rw [c1,c2] at hnx hys
   rw [c2] at p2
   rcases c3:((qX l e.num e.finds day age).any (aj7 f0)) with _|_
   ·rw [c3] at hnx p1
    (have zx:=za e1 (za hw (za c1 (za vx vf))));refine zgo ?_;repeat' first|exact zt|apply zan|intro hc
    all_goals exact hL _ (k + 1) (Qd []) ⟨by omega,hnx rfl⟩ (by omega) (Qh [] (by simp only [go_sem,zwl,hoS,zb]<;>exact zcc) (by simp only [go_sem,zwl,hoS,Qo.cells]<;>exact zcc) (by simp [hoS,Qd]) (by simp [hoS]) (by omega))
   ·rw [c3] at hys p1
    rw [hys rfl]
    (have zx:=za e1 (za hw (za c1 (za vx vf))));exact zg
 ·rw [c1] at hnx hys
  rcases c3:((qX l e.num e.finds day age).any (aj7 f0)) with _|_
  ·rw [c3] at hnx p1
   (have zx:=za e1 (za hw (za c1 (za vx vf))));refine zgo ?_;repeat' first|exact zt|apply zan|intro hc
   all_goals exact hL _ (k + 1) (Qd []) ⟨by omega,hnx rfl⟩ (by omega) (Qh [] (by simp only [go_sem,zwl,hoS,zb]<;>exact zcc) (by simp only [go_sem,zwl,hoS,Qo.cells]<;>exact zcc) (by simp [hoS,Qd]) (by simp [hoS]) (by omega))
  ·rw [c3] at hys p1
   rw [hys rfl]
   (have zx:=za e1 (za hw (za c1 (za vx vf))));exact zg
structure Kw.Sm (c:Kw):Prop where
 h1:c.issuer.length < 2 ^ 60
 h2:c.subject.length < 2 ^ 60
 h3:c.names.length < 2 ^ 60
 h4:∀ x∈c.names,x.length < 2 ^ 60
def atU (a b id:Int) (l:List Kw):Bool:=match l with|[]=>true|c :: _=>((c.kalg == a && c.kbits == b) && (c.kid == id))
def adu (a b id:Int) (l:List Kw):Bool:=an9 a b 2 && (arU id && (decide ((l.length:Int)≤8) && (l.all ai3 && atU a b id l)))
theorem aqX {a b id:Int} {l:List Kw} {c:Kw} (h:c∈l) (hc:ai3 c = false):adu a b id l = false:=by
 have:l.all ai3 = false:=Ze.2 ⟨c,h,by simp [hc]⟩
 simp [adu,this]
theorem apd {α:Type} {p:α→Bool} {l:List α} {k:Nat} {x:α} (h:l[k]? = some x) (hp:(l.take k).all p = true) (hx:p x = true):(l.take (k + 1)).all p = true:=by
 rw [zB,h,bm,hp];simp [hx]
def UI:=qd Proofs.Tryz.f123 [zhn 20]
def jB (Γ:Env) (f:Nat):Prop:=∀ (a b id:Int) (l:List Kw) (hl:l.length < 2 ^ 60) (hs:∀ c∈l,c.Sm),EvN Γ f [.agg [V.int a,V.int b],V.int id,.sl 15 (l.map Kw.v)] (V.bool (adu a b id l))
attribute [local go_sem] List.getElem?_cons_zero zE Kw.cells Kw.v in
theorem afh {Γ:Env} {f:Nat} (h:Has Γ.P f 57 UI.1.1.ac UI.1.2) (z0:XE Γ 118) (z1:Wg Γ 195) (z2:XP Γ 127) (z3:Uq Γ 196):jB Γ f:=by
 intro a b id l hl hs
 refine Qc h zsi zcl zcl fun C hC hm=>?_
 subst hC
 simp only [UI,qd,DC.ac]
 have hlm:(l.map Kw.v).length = l.length:=zb _
 have no0:an9 a b 2 = false→adu a b id l = false:=fun h=>by simp [adu,h]
 have no1:arU id = false→adu a b id l = false:=fun h=>by simp [adu,h]
 have no2:l.length > 8→adu a b id l = false:=fun h=>by
  have:decide ((l.length:Int)≤8) = false:=by simp;omega
  simp [adu,this]
 rcases hu:an9 a b 2 with _|_
 ·rw [no0 hu]
  unfold an9 at hu
  rcases hq:decide (Qx a b > 0) with _|_
  ·(have zx:=hq);exact zg
  ·rw [hq,zO] at hu
   have hu2:((XK a).kind != 2) = true:=by simpa using hu
   (have zx:=za hq hu2);exact zg
 have hq:decide (Qx a b > 0) = true:=by unfold an9 at hu;simp at hu;simpa using hu.1
 have hu2:((XK a).kind != 2) = false:=by unfold an9 at hu;simp at hu;simpa using hu.2
 have hk:=(z2 id).b
 rcases hk1:arU id with _|_
 ·rw [no1 hk1]
  rw [hk1] at hk
  (have zx:=za hq hu2);exact zg
 rw [hk1] at hk
 by_cases h8:l.length > 8
 ·have e8:decide ((l.length:Int) > 8) = true:=by simp;omega
  rw [no2 h8]
  (have zx:=za hq (za hu2 (za hlm e8)));exact zg
 have e8:decide ((l.length:Int) > 8) = false:=by simp;omega
 have e8':decide ((l.length:Int)≤8) = true:=by simp;omega
 (have zx:=za hq (za hu2 (za hlm e8)));refine zgo ?_;repeat' first|exact zt|apply zan|intro hc
 refine Ji (ι:=Nat) (fun k=>k≤l.length∧(l.take k).all ai3 = true) (fun k=>[(30,V.int k)]) (fun k=>l.length - k) 0 (by omega) ⟨zJ _,rfl⟩ zol zlt zet fun k hk K' hL=>?_
 obtain ⟨hk,hinv⟩:=hk
 simp only [ovT,Xs,Nat.reduceEqDiff,reduceIte]
 rcases hd:l.drop k with _|⟨c,r⟩
 ·have hkl:=Qu hd
  have e1:decide ((k:Int) < ((l.length:Nat):Int)) = false:=by simp;omega
  have hall:l.all ai3 = true:=by rwa [zi hkl] at hinv
  have hfin:adu a b id l = atU a b id l:=by rw [adu,hu,hk1,e8',hall];rfl
  rw [hfin]
  clear hfin
  rcases l with _|⟨c,r⟩
  ·rw [show atU a b id [] = true from rfl]
   (have zx:=za e1 hlm);exact zg
  ·have e9:((((c :: r).length:Nat):Int) == 0) = false:=by simp;omega
   have e1b:decide ((k:Int) < ((r.length + 1:Nat):Int)) = false:=e1
   have e9b:(((r.length + 1:Nat):Int) == 0) = false:=e9
   rw [atU]
   (have zx:=za e1 (za e1b (za hlm (za e9 e9b))));refine zgo ?_;repeat' first|exact zt|apply zan|intro hc
   all_goals first|exact zr|(refine Qg _ rfl ?_;simp only [go_sem];simp [*];done)
 ·obtain ⟨hk',hget,hr⟩:=Qq hd
  have hw:=Qe (k:=k) (by omega)
  have e1:decide ((k:Int) < ((l.length:Nat):Int)) = true:=by simp;omega
  have hm:=zq hget
  have sm:=hs c hm
  have hce:=(z3 c sm.h1 sm.h2 sm.h3 sm.h4).b
  simp only [Kw.v,Kw.cells] at hce
  rcases hcb:ai3 c with _|_
  ·rw [aqX hm hcb]
   rw [hcb,if_neg (by decide)] at hce
   (have zx:=za e1 (za hw (za hlm hget)));exact zg
  ·rw [hcb,if_pos rfl] at hce
   (have zx:=za e1 (za hw (za hlm hget)));refine zgo ?_;repeat' first|exact zt|apply zan|intro hc
   all_goals exact hL _ (k + 1) zet ⟨by omega,apd hget hinv hcb⟩ (by omega) zoe
end Av
end
