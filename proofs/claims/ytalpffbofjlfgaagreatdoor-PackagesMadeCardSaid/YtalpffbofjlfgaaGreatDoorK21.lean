/- K21 -/
import Derived.Test.YtalpffbofjlfgaaGreatDoorK20
set_option linter.unusedVariables false
set_option linter.unusedSimpArgs false
section
set_option linter.unusedSimpArgs false
set_option linter.unusedVariables false
set_option maxRecDepth 10000
set_option maxHeartbeats 4000000
namespace Av
open Go
attribute [local irreducible] AWp WY Vp Vq awS awC V1 awQ Uh Q9 YQ VZ awR YT awB okR Ww ris
end Av
end
section
set_option linter.unusedSimpArgs false
set_option linter.unusedVariables false
set_option maxRecDepth 10000
set_option maxHeartbeats 4000000
namespace Av
open Go
attribute [local irreducible] AWp WY Vp Vq awS awC V1 awQ Uh Q9 YQ VZ awR YT awB okR Ww ris
structure JS where
  name:List UInt8
  lo:List Int
  up:List Int
def JS.cells (n:JS):List V:=[V.str n.name,.sl 1 (n.lo.map V.int),.sl 1 (n.up.map V.int)]
def JS.v (n:JS):V:=.agg n.cells
structure Qu where
  name:List UInt8
  ver:List Int
  needs:List JS
def Qu.cells (p:Qu):List V:=[V.str p.name,.sl 1 (p.ver.map V.int),.sl 3 (p.needs.map JS.v)]
def Qu.v (p:Qu):V:=.agg p.cells
theorem yg {α:Type} (p:α→Bool):∀ (xs:List α) (k:Nat),decide (abi p k xs≥0) = xs.any p
  | [],k=>by simp [abi]
  | x :: r,k=>by
    have ih:=yg p r (k + 1)
    rw [abi,List.any_cons]
    by_cases h:p x = true
    · rw [if_pos h,h];simp
    · have h2:p x = false:=by simpa using h
      rw [if_neg h,h2,ih];rfl
def Xp:AC:=Qo [0,1] (.reg [mc 4 (V.int 0)]) (Qo [] (Qo [0,1,7,8] (.reg [mv 6 0,ln 7 6,mc 8 (V.int 0)]) (.block 0 (X1 [0,1,7,8] (Qo [0,1,7,8,9] (.reg [bn 9 .lss 8 7]) (Qo [0,1,7,8] (.cond (.t 9) (.skip) (.exit 0)) (Qo [0,1,7,8] (.block 1 (Qo [0,1,5,7,8] (.reg [mv 10 8,mv 5 10]) (Qo [0,1,5,7,8,16] (.reg [mv 11 1,mv 12 0,mv 13 5,ia 14 3 12 13,xo 15 (.load true 3 (.t 14)),xo 16 (.callv (.t 11) [(.t 15)])]) (.cond (.t 16) (Qo [4] (.reg [mv 17 5,mv 4 17]) (.ret)) (.skip))))) (.reg [bc 18 .add 8 (V.int 1),mv 8 18]))))))) (Qo [4] (.reg [mc 4 (V.int (-1))]) (.ret))) def r_slices_IndexFunc___api_Need_api_Need:List X0:=[.tmp 4]
def Xi (Γ:Env) (f:Nat):Prop:=∀ (xs:List JS) (g:Nat) (cap:List V) (p:JS→Bool) (hp:∀ x∈xs,EvN Γ g (x.v :: cap) (V.bool (p x))) (hcap:Qn cap) (hl:xs.length < 2 ^ 62),EvN Γ f [.sl 3 (xs.map JS.v),.clo g cap] (V.int (abi p 0 xs))
theorem UT {Γ:Env} {f:Nat} (h:Has Γ.P f 19 Xp r_slices_IndexFunc___api_Need_api_Need) :Xi Γ f:=by
  intro xs g cap p hp hcap hl
  refine QQ h (by simp) (by simp only [V.closed,Qn,V.noSl,Jx,and_self,and_true,true_and]) (by simp only [V.closed,Qn,V.noSl,Jx,and_self,and_true,true_and]) fun C hC hm=>?_
  subst hC
  unfold Xp
  have s1:∀ o,Wy o cap = cap:=fun o=>YW o cap hcap
  have s2:∀ o B,JU o B cap = True:=fun o B=>eq_true (Yo o B cap hcap)
  repeat' (first|refine Qb fun K' hK=>?_|refine Qe fun K' hK=>?_|refine Qc ?_|refine Qd ?_|refine Qa ?_|((first|refine Qg ⟨_,rfl,fun hc=>?_,fun hc=>?_⟩|refine Qs (fun hc=>?_) (fun hc=>?_)|refine Qt (fun hc=>?_) (fun hc=>?_))<;>first|(cases hc;done)|((try simp only [znz] at hc);first|exact znf|skip))|refine Qi ?_|refine Qf ?_|simp (maxSteps:=1000000) only [go_sem]|(refine hK _ ?_;clear hK K')|apply And.intro|exact zlo|omega|exact zms)
  refine Xf (ι:=Nat) (fun k=>k≤xs.length∧abi p k (xs.drop k) = abi p 0 xs) (fun k=>[(8,V.int k)]) (fun k=>xs.length - k) 0 (by omega) ⟨by simp,by simp⟩ (by repeat' first|exact We|refine Vk (by omega) (by simp only [Ob.lt,ltL,V.lt,and_self,and_true];try omega) ?_) (fun i hi=>by simp only [ovT,J5,Nat.reduceEqDiff,reduceIte];(repeat' first|exact Vj|refine Wd ?_ ?_|simp only [V.lt,ltL,and_self,and_true]|omega);exact K8 _ _ hcap) (by simp only [Nat.reduceAdd,ovT,J5,Nat.reduceEqDiff,reduceIte,JA,JW,qV,u32,u33,u34,u35,u36,u37,u38,u39,and_self,and_true,true_and];first|rfl|exact Qh _ _ hcap) fun k hk K' hL=>?_
  obtain ⟨hk,hinv⟩:=hk
  simp only [ovT,J5,Nat.reduceEqDiff,reduceIte]
  rcases hd:xs.drop k with _|⟨y,r⟩
  · have:=Xx hd
    rw [hd] at hinv
    have e1:decide ((k:Int) < (((xs.map JS.v).length:Nat):Int)) = false:=by simp;omega
    repeat' (first|refine Qb fun K' hK=>?_|refine Qe fun K' hK=>?_|refine Qc ?_|refine Qd ?_|refine Qa ?_|((first|refine Qg ⟨_,rfl,fun hc=>?_,fun hc=>?_⟩|refine Qs (fun hc=>?_) (fun hc=>?_)|refine Qt (fun hc=>?_) (fun hc=>?_))<;>first|(cases hc;done)|((try simp only [znz] at hc);first|exact znf|skip))|refine Qi ?_|refine Qf ?_|simp (maxSteps:=1000000) only [go_sem,e1]|(refine hK _ ?_;clear hK K')|apply And.intro|exact zlo|omega|exact zms)
    refine QM _ rfl ?_
    simp only [go_sem]
    rw [← hinv];rfl
  · obtain ⟨hk,hget,hr⟩:=Yy hd
    rw [hd] at hinv
    have hw:=Jq (k:=k) (by omega)
    have e1:decide ((k:Int) < (((xs.map JS.v).length:Nat):Int)) = true:=by simp;omega
    have hpy:=hp y (List.mem_of_getElem? hget)
    by_cases hy:p y = true
    · rw [hy] at hpy
      repeat' (first|refine Qb fun K' hK=>?_|refine Qe fun K' hK=>?_|refine Qc ?_|refine Qd ?_|refine Qa ?_|((first|refine Qg ⟨_,rfl,fun hc=>?_,fun hc=>?_⟩|refine Qs (fun hc=>?_) (fun hc=>?_)|refine Qt (fun hc=>?_) (fun hc=>?_))<;>first|(cases hc;done)|((try simp only [znz] at hc);first|exact znf|skip))|refine Qi ?_|refine Qf ?_|simp (maxSteps:=1000000) only [go_sem,Int.toNat_natCast,List.getElem?_map,hget,hw,e1,JS.v,JS.cells,s1,s2]|(refine hK _ ?_;clear hK K')|apply And.intro|(apply Qv;(focus first|exact hpy.b))|exact zlo|omega|exact zms)
      refine QM _ rfl ?_;simp only [go_sem]
      rw [← hinv];simp [abi,hy]
    · have hy':p y = false:=by simpa using hy
      rw [hy'] at hpy
      repeat' (first|refine Qb fun K' hK=>?_|refine Qe fun K' hK=>?_|refine Qc ?_|refine Qd ?_|refine Qa ?_|((first|refine Qg ⟨_,rfl,fun hc=>?_,fun hc=>?_⟩|refine Qs (fun hc=>?_) (fun hc=>?_)|refine Qt (fun hc=>?_) (fun hc=>?_))<;>first|(cases hc;done)|((try simp only [znz] at hc);first|exact znf|skip))|refine Qi ?_|refine Qf ?_|simp (maxSteps:=1000000) only [go_sem,Int.toNat_natCast,List.getElem?_map,hget,hw,e1,JS.v,JS.cells,s1,s2]|(refine hK _ ?_;clear hK K')|apply And.intro|(apply Qv;(focus first|exact hpy.b))|exact zlo|omega|exact zms)
      refine hL _ (k + 1) (by simp only [Nat.reduceAdd,ovT,J5,Nat.reduceEqDiff,reduceIte,JA,JW,qV,u32,u33,u34,u35,u36,u37,u38,u39,and_self,and_true,true_and]) ⟨by omega,?_⟩ (by omega) (fun a ha=>by simp only [u32,u33,u34,u35,u36,u37,u38,u39];repeat rw [if_neg (by omega)])
      rw [hr,← hinv,abi,if_neg hy]
def YX (Yx:Nat):AC:=Qo [0,1] (.reg [mc 4 (V.bool false)]) (Qo [4] (.reg [mv 5 0,mv 6 1,cl 7 Yx [5,6],bc 8 .geq 7 (V.int 0),mv 4 8]) (.ret)) def r_slices_ContainsFunc___api_Need_api_Need:List X0:=[.tmp 4]
def Yf (Γ:Env) (f:Nat):Prop:=∀ (xs:List JS) (g:Nat) (cap:List V) (p:JS→Bool) (hp:∀ x∈xs,EvN Γ g (x.v :: cap) (V.bool (p x))) (hcap:Qn cap) (hl:xs.length < 2 ^ 62),EvN Γ f [.sl 3 (xs.map JS.v),.clo g cap] (V.bool (xs.any p))
theorem Us {Γ:Env} {f Yx:Nat} (h:Has Γ.P f 9 (YX Yx) r_slices_ContainsFunc___api_Need_api_Need) (WT:Xi Γ Yx):Yf Γ f:=by
  intro xs g cap p hp hcap hl
  refine QQ h (by simp) (by simp only [V.closed,Qn,V.noSl,Jx,and_self,and_true,true_and]) (by simp only [V.closed,Qn,V.noSl,Jx,and_self,and_true,true_and]) fun C hC hm=>?_
  subst hC
  unfold YX
  have s1:∀ o,Wy o cap = cap:=fun o=>YW o cap hcap
  have s2:∀ o B,JU o B cap = True:=fun o B=>eq_true (Yo o B cap hcap)
  have hi:=(WT xs g cap p hp hcap hl).b
  have e1:=yg p xs 0
  repeat' (first|refine Qb fun K' hK=>?_|refine Qe fun K' hK=>?_|refine Qc ?_|refine Qd ?_|refine Qa ?_|((first|refine Qg ⟨_,rfl,fun hc=>?_,fun hc=>?_⟩|refine Qs (fun hc=>?_) (fun hc=>?_)|refine Qt (fun hc=>?_) (fun hc=>?_))<;>first|(cases hc;done)|((try simp only [znz] at hc);first|exact znf|skip))|refine Qi ?_|refine Qf ?_|simp (maxSteps:=1000000) only [go_sem,s1,s2,e1]|(refine hK _ ?_;clear hK K')|apply And.intro|(apply Qv;(focus first|exact hi|exact (WT _ _ _ _ zsd zsd zsd).b))|exact zlo|omega|exact zms)
  all_goals first|(refine QM _ rfl ?_;simp only [go_sem];done)
def YN:AC:=Qo [0,1] (.reg [mc 4 (V.int 0)]) (Qo [] (Qo [0,1,7,8] (.reg [mv 6 0,ln 7 6,mc 8 (V.int 0)]) (.block 0 (X1 [0,1,7,8] (Qo [0,1,7,8,9] (.reg [bn 9 .lss 8 7]) (Qo [0,1,7,8] (.cond (.t 9) (.skip) (.exit 0)) (Qo [0,1,7,8] (.block 1 (Qo [0,1,5,7,8] (.reg [mv 10 8,mv 5 10]) (Qo [0,1,5,7,8,16] (.reg [mv 11 1,mv 12 0,mv 13 5,ia 14 3 12 13,xo 15 (.load true 3 (.t 14)),xo 16 (.callv (.t 11) [(.t 15)])]) (.cond (.t 16) (Qo [4] (.reg [mv 17 5,mv 4 17]) (.ret)) (.skip))))) (.reg [bc 18 .add 8 (V.int 1),mv 8 18]))))))) (Qo [4] (.reg [mc 4 (V.int (-1))]) (.ret))) def r_slices_IndexFunc___api_Package_api_Package:List X0:=[.tmp 4]
def J4 (Γ:Env) (f:Nat):Prop:=∀ (xs:List Qu) (g:Nat) (cap:List V) (p:Qu→Bool) (hp:∀ x∈xs,EvN Γ g (x.v :: cap) (V.bool (p x))) (hcap:Qn cap) (hl:xs.length < 2 ^ 62),EvN Γ f [.sl 3 (xs.map Qu.v),.clo g cap] (V.int (abi p 0 xs))
theorem VR {Γ:Env} {f:Nat} (h:Has Γ.P f 19 YN r_slices_IndexFunc___api_Package_api_Package) :J4 Γ f:=by
  intro xs g cap p hp hcap hl
  refine QQ h (by simp) (by simp only [V.closed,Qn,V.noSl,Jx,and_self,and_true,true_and]) (by simp only [V.closed,Qn,V.noSl,Jx,and_self,and_true,true_and]) fun C hC hm=>?_
  subst hC
  unfold YN
  have s1:∀ o,Wy o cap = cap:=fun o=>YW o cap hcap
  have s2:∀ o B,JU o B cap = True:=fun o B=>eq_true (Yo o B cap hcap)
  repeat' (first|refine Qb fun K' hK=>?_|refine Qe fun K' hK=>?_|refine Qc ?_|refine Qd ?_|refine Qa ?_|((first|refine Qg ⟨_,rfl,fun hc=>?_,fun hc=>?_⟩|refine Qs (fun hc=>?_) (fun hc=>?_)|refine Qt (fun hc=>?_) (fun hc=>?_))<;>first|(cases hc;done)|((try simp only [znz] at hc);first|exact znf|skip))|refine Qi ?_|refine Qf ?_|simp (maxSteps:=1000000) only [go_sem]|(refine hK _ ?_;clear hK K')|apply And.intro|exact zlo|omega|exact zms)
  refine Xf (ι:=Nat) (fun k=>k≤xs.length∧abi p k (xs.drop k) = abi p 0 xs) (fun k=>[(8,V.int k)]) (fun k=>xs.length - k) 0 (by omega) ⟨by simp,by simp⟩ (by repeat' first|exact We|refine Vk (by omega) (by simp only [Ob.lt,ltL,V.lt,and_self,and_true];try omega) ?_) (fun i hi=>by simp only [ovT,J5,Nat.reduceEqDiff,reduceIte];(repeat' first|exact Vj|refine Wd ?_ ?_|simp only [V.lt,ltL,and_self,and_true]|omega);exact K8 _ _ hcap) (by simp only [Nat.reduceAdd,ovT,J5,Nat.reduceEqDiff,reduceIte,JA,JW,qV,u32,u33,u34,u35,u36,u37,u38,u39,and_self,and_true,true_and];first|rfl|exact Qh _ _ hcap) fun k hk K' hL=>?_
  obtain ⟨hk,hinv⟩:=hk
  simp only [ovT,J5,Nat.reduceEqDiff,reduceIte]
  rcases hd:xs.drop k with _|⟨y,r⟩
  · have:=Xx hd
    rw [hd] at hinv
    have e1:decide ((k:Int) < (((xs.map Qu.v).length:Nat):Int)) = false:=by simp;omega
    repeat' (first|refine Qb fun K' hK=>?_|refine Qe fun K' hK=>?_|refine Qc ?_|refine Qd ?_|refine Qa ?_|((first|refine Qg ⟨_,rfl,fun hc=>?_,fun hc=>?_⟩|refine Qs (fun hc=>?_) (fun hc=>?_)|refine Qt (fun hc=>?_) (fun hc=>?_))<;>first|(cases hc;done)|((try simp only [znz] at hc);first|exact znf|skip))|refine Qi ?_|refine Qf ?_|simp (maxSteps:=1000000) only [go_sem,e1]|(refine hK _ ?_;clear hK K')|apply And.intro|exact zlo|omega|exact zms)
    refine QM _ rfl ?_
    simp only [go_sem]
    rw [← hinv];rfl
  · obtain ⟨hk,hget,hr⟩:=Yy hd
    rw [hd] at hinv
    have hw:=Jq (k:=k) (by omega)
    have e1:decide ((k:Int) < (((xs.map Qu.v).length:Nat):Int)) = true:=by simp;omega
    have hpy:=hp y (List.mem_of_getElem? hget)
    by_cases hy:p y = true
    · rw [hy] at hpy
      repeat' (first|refine Qb fun K' hK=>?_|refine Qe fun K' hK=>?_|refine Qc ?_|refine Qd ?_|refine Qa ?_|((first|refine Qg ⟨_,rfl,fun hc=>?_,fun hc=>?_⟩|refine Qs (fun hc=>?_) (fun hc=>?_)|refine Qt (fun hc=>?_) (fun hc=>?_))<;>first|(cases hc;done)|((try simp only [znz] at hc);first|exact znf|skip))|refine Qi ?_|refine Qf ?_|simp (maxSteps:=1000000) only [go_sem,Int.toNat_natCast,List.getElem?_map,hget,hw,e1,Qu.v,Qu.cells,s1,s2]|(refine hK _ ?_;clear hK K')|apply And.intro|(apply Qv;(focus first|exact hpy.b))|exact zlo|omega|exact zms)
      refine QM _ rfl ?_;simp only [go_sem]
      rw [← hinv];simp [abi,hy]
    · have hy':p y = false:=by simpa using hy
      rw [hy'] at hpy
      repeat' (first|refine Qb fun K' hK=>?_|refine Qe fun K' hK=>?_|refine Qc ?_|refine Qd ?_|refine Qa ?_|((first|refine Qg ⟨_,rfl,fun hc=>?_,fun hc=>?_⟩|refine Qs (fun hc=>?_) (fun hc=>?_)|refine Qt (fun hc=>?_) (fun hc=>?_))<;>first|(cases hc;done)|((try simp only [znz] at hc);first|exact znf|skip))|refine Qi ?_|refine Qf ?_|simp (maxSteps:=1000000) only [go_sem,Int.toNat_natCast,List.getElem?_map,hget,hw,e1,Qu.v,Qu.cells,s1,s2]|(refine hK _ ?_;clear hK K')|apply And.intro|(apply Qv;(focus first|exact hpy.b))|exact zlo|omega|exact zms)
      refine hL _ (k + 1) (by simp only [Nat.reduceAdd,ovT,J5,Nat.reduceEqDiff,reduceIte,JA,JW,qV,u32,u33,u34,u35,u36,u37,u38,u39,and_self,and_true,true_and]) ⟨by omega,?_⟩ (by omega) (fun a ha=>by simp only [u32,u33,u34,u35,u36,u37,u38,u39];repeat rw [if_neg (by omega)])
      rw [hr,← hinv,abi,if_neg hy]
def Yw (Q1:Nat):AC:=Qo [0,1] (.reg [mc 4 (V.bool false)]) (Qo [4] (.reg [mv 5 0,mv 6 1,cl 7 Q1 [5,6],bc 8 .geq 7 (V.int 0),mv 4 8]) (.ret)) def r_slices_ContainsFunc___api_Package_api_Package:List X0:=[.tmp 4]
def JT (Γ:Env) (f:Nat):Prop:=∀ (xs:List Qu) (g:Nat) (cap:List V) (p:Qu→Bool) (hp:∀ x∈xs,EvN Γ g (x.v :: cap) (V.bool (p x))) (hcap:Qn cap) (hl:xs.length < 2 ^ 62),EvN Γ f [.sl 3 (xs.map Qu.v),.clo g cap] (V.bool (xs.any p))
theorem VD {Γ:Env} {f Q1:Nat} (h:Has Γ.P f 9 (Yw Q1) r_slices_ContainsFunc___api_Package_api_Package) (JH:J4 Γ Q1):JT Γ f:=by
  intro xs g cap p hp hcap hl
  refine QQ h (by simp) (by simp only [V.closed,Qn,V.noSl,Jx,and_self,and_true,true_and]) (by simp only [V.closed,Qn,V.noSl,Jx,and_self,and_true,true_and]) fun C hC hm=>?_
  subst hC
  unfold Yw
  have s1:∀ o,Wy o cap = cap:=fun o=>YW o cap hcap
  have s2:∀ o B,JU o B cap = True:=fun o B=>eq_true (Yo o B cap hcap)
  have hi:=(JH xs g cap p hp hcap hl).b
  have e1:=yg p xs 0
  repeat' (first|refine Qb fun K' hK=>?_|refine Qe fun K' hK=>?_|refine Qc ?_|refine Qd ?_|refine Qa ?_|((first|refine Qg ⟨_,rfl,fun hc=>?_,fun hc=>?_⟩|refine Qs (fun hc=>?_) (fun hc=>?_)|refine Qt (fun hc=>?_) (fun hc=>?_))<;>first|(cases hc;done)|((try simp only [znz] at hc);first|exact znf|skip))|refine Qi ?_|refine Qf ?_|simp (maxSteps:=1000000) only [go_sem,s1,s2,e1]|(refine hK _ ?_;clear hK K')|apply And.intro|(apply Qv;(focus first|exact hi|exact (JH _ _ _ _ zsd zsd zsd).b))|exact zlo|omega|exact zms)
  all_goals first|(refine QM _ rfl ?_;simp only [go_sem];done)
end Av
end
section
set_option linter.unusedSimpArgs false
set_option linter.unusedVariables false
set_option maxRecDepth 10000
set_option maxHeartbeats 4000000
namespace Av
open Go
attribute [local irreducible] AWp WY Vp Vq awS awC V1 awQ Uh Q9 YQ VZ awR YT awB okR Ww ris
def aae (c:UInt8):Bool:=decide ((c.toNat:Int)≤32) || decide ((c.toNat:Int) > 126)
def Xs (s:List UInt8):Bool:=!s.any aae && (decide ((s.length:Int)≥1) && decide ((s.length:Int)≤32))
def Wt (lo up:List Int):Bool:=(lo.isEmpty || UL lo) && (up.isEmpty || UL up)
def yN:AC:=Qo [0] (.reg [mc 2 (V.bool false)]) (Qo [0] (Qo [0,6,7,8] (.reg [mv 5 0,xo 6 (.convSB (.t 5)),ln 7 6,mc 8 (V.int 0)]) (.block 0 (X1 [0,6,7,8] (Qo [0,6,7,8,9] (.reg [bn 9 .lss 8 7]) (Qo [0,6,7,8] (.cond (.t 9) (.skip) (.exit 0)) (Qo [0,6,7,8] (.block 1 (Qo [0,4,6,7,8] (.reg [ia 10 1 6 8,ld 11 1 10,mv 4 11]) (Qo [0,6,7,8,17] (.reg [mv 12 4,bc 13 .leq 12 (.sc (.int .u8 32)),mv 14 13,mg 15 4 14 false,xg 16 (.bin .gtr (.t 15) (.c (.sc (.int .u8 126)))) 14 false,xo 17 (.pick (.t 14) (.c (V.bool true)) (.t 16))]) (.cond (.t 17) (Qo [2] (.reg [mc 2 (V.bool false)]) (.ret)) (.skip))))) (.reg [bc 18 .add 8 (V.int 1),mv 8 18]))))))) (Qo [2] (.reg [mv 19 0,xo 20 (.lenS (.t 19)),bc 21 .geq 20 (V.int 1),mv 22 21,mg 23 0 22 true,xg 24 (.lenS (.t 23)) 22 true,xg 25 (.bin .leq (.t 24) (.c (V.int 32))) 22 true,xo 26 (.pick (.t 22) (.t 25) (.c (V.bool false))),mv 2 26]) (.ret))) def r_catalog_Named:List X0:=[.tmp 2]
def KD (Γ:Env) (f:Nat):Prop:=∀ (s:List UInt8) (hs:s.length < 2 ^ 60),EvN Γ f [V.str s] (V.bool (Xs s))
theorem adU {Γ:Env} {f:Nat} (h:Has Γ.P f 27 yN r_catalog_Named) :KD Γ f:=by
  intro s hs
  refine QQ h (by simp) (by simp only [V.closed,Qn,V.noSl,Jx,and_self,and_true,true_and]) (by simp only [V.closed,Qn,V.noSl,Jx,and_self,and_true,true_and]) fun C hC hm=>?_
  subst hC
  unfold yN
  repeat' (first|refine Qb fun K' hK=>?_|refine Qe fun K' hK=>?_|refine Qc ?_|refine Qd ?_|refine Qa ?_|((first|refine Qg ⟨_,rfl,fun hc=>?_,fun hc=>?_⟩|refine Qs (fun hc=>?_) (fun hc=>?_)|refine Qt (fun hc=>?_) (fun hc=>?_))<;>first|(cases hc;done)|((try simp only [znz] at hc);first|exact znf|skip))|refine Qi ?_|refine Qf ?_|simp (maxSteps:=1000000) only [go_sem]|(refine hK _ ?_;clear hK K')|apply And.intro|exact zlo|omega|exact zms)
  refine JR (ι:=Nat) (fun k=>k≤s.length∧(s.drop k).any aae = s.any aae) (fun k=>Xy [(0,V.str s),(6,.hd 0 0 s.length),(7,V.int s.length),(8,V.int k)] [(0,.buf true 1 (s.map fun c=>V.sc (.int .u8 c.toNat)))] 1) (fun k=>s.length - k) 0 ⟨by omega,by simp⟩ (QO [(0,2000)]) (JE [(0,2000)] (by simp only [go_sem,and_true,true_and,implies_true,Option.some.injEq,exists_eq_left',Qh,Qj];(repeat' (first|rfl|apply And.intro|omega|exact fun h=>h|exact Exists.intro _ rfl))) (by simp only [go_sem,and_true,true_and,implies_true,Option.some.injEq,exists_eq_left',Qh,Qj];(repeat' (first|rfl|apply And.intro|omega|exact fun h=>h|exact Exists.intro _ rfl))) (by simp [QO]) (by simp;omega) (by omega)) fun k hk K' hL=>?_
  obtain ⟨hk,hinv⟩:=hk
  rcases hd:s.drop k with _|⟨c,r⟩
  · have hkl:=Xx hd
    rw [hd] at hinv
    have e1:decide ((k:Int) < ((s.length:Nat):Int)) = false:=by simp;omega
    have hok:Xs s = (decide ((s.length:Int)≥1) && decide ((s.length:Int)≤32)):=by rw [Xs,← hinv];rfl
    rw [hok]
    rcases hq:decide ((s.length:Int)≥1) with _|_
    · repeat' (first|refine Qb fun K' hK=>?_|refine Qe fun K' hK=>?_|refine Qc ?_|refine Qd ?_|refine Qa ?_|((first|refine Qg ⟨_,rfl,fun hc=>?_,fun hc=>?_⟩|refine Qs (fun hc=>?_) (fun hc=>?_)|refine Qt (fun hc=>?_) (fun hc=>?_))<;>first|(cases hc;done)|((try simp only [znz] at hc);first|exact znf|skip))|refine Qi ?_|refine Qf ?_|simp (maxSteps:=1000000) only [go_sem,Xy,e1,hq]|(refine hK _ ?_;clear hK K')|apply And.intro|exact zlo|omega|exact zms)
      all_goals first|(refine QM _ rfl ?_;simp only [go_sem];done)
    · repeat' (first|refine Qb fun K' hK=>?_|refine Qe fun K' hK=>?_|refine Qc ?_|refine Qd ?_|refine Qa ?_|((first|refine Qg ⟨_,rfl,fun hc=>?_,fun hc=>?_⟩|refine Qs (fun hc=>?_) (fun hc=>?_)|refine Qt (fun hc=>?_) (fun hc=>?_))<;>first|(cases hc;done)|((try simp only [znz] at hc);first|exact znf|skip))|refine Qi ?_|refine Qf ?_|simp (maxSteps:=1000000) only [go_sem,Xy,e1,hq]|(refine hK _ ?_;clear hK K')|apply And.intro|exact zlo|omega|exact zms)
      all_goals first|(refine QM _ rfl ?_;simp only [go_sem];done)|(refine QM _ rfl ?_;simp only [go_sem];simp;done)
  · obtain ⟨hk',hget,hr⟩:=Yy hd
    rw [hd] at hinv
    have hw:=Jq (k:=k) (by omega)
    have e1:decide ((k:Int) < ((s.length:Nat):Int)) = true:=by simp;omega
    rcases h1:decide ((c.toNat:Int)≤32) with _|_
    · rcases h2:decide ((c.toNat:Int) > 126) with _|_
      · repeat' (first|refine Qb fun K' hK=>?_|refine Qe fun K' hK=>?_|refine Qc ?_|refine Qd ?_|refine Qa ?_|((first|refine Qg ⟨_,rfl,fun hc=>?_,fun hc=>?_⟩|refine Qs (fun hc=>?_) (fun hc=>?_)|refine Qt (fun hc=>?_) (fun hc=>?_))<;>first|(cases hc;done)|((try simp only [znz] at hc);first|exact znf|skip))|refine Qi ?_|refine Qf ?_|simp (maxSteps:=1000000) only [go_sem,Xy,e1,hw,Int.toNat_natCast,List.getElem?_map,hget,h1,h2]|(refine hK _ ?_;clear hK K')|apply And.intro|exact zlo|omega|exact zms)
        all_goals first
          | exact hL _ (k + 1) (QO [(0,0)]) ⟨by omega,by rw [hr,← hinv];simp only [List.any_cons,aae,h1,h2,Bool.or_self,Bool.false_or]⟩ (by omega) (JE [(0,0)] (by simp only [go_sem,and_true,true_and,implies_true,Option.some.injEq,exists_eq_left',Qh,Qj];(repeat' (first|rfl|apply And.intro|omega|exact fun h=>h|exact Exists.intro _ rfl))) (by simp only [go_sem,and_true,true_and,implies_true,Option.some.injEq,exists_eq_left',Qh,Qj];(repeat' (first|rfl|apply And.intro|omega|exact fun h=>h|exact Exists.intro _ rfl))) (by simp [QO]) (by simp;omega) (by omega))
      · have hok:Xs s = false:=by rw [Xs,← hinv];simp only [List.any_cons,aae,h2,Bool.or_true,Bool.true_or,Bool.not_true,Bool.false_and]
        rw [hok]
        repeat' (first|refine Qb fun K' hK=>?_|refine Qe fun K' hK=>?_|refine Qc ?_|refine Qd ?_|refine Qa ?_|((first|refine Qg ⟨_,rfl,fun hc=>?_,fun hc=>?_⟩|refine Qs (fun hc=>?_) (fun hc=>?_)|refine Qt (fun hc=>?_) (fun hc=>?_))<;>first|(cases hc;done)|((try simp only [znz] at hc);first|exact znf|skip))|refine Qi ?_|refine Qf ?_|simp (maxSteps:=1000000) only [go_sem,Xy,e1,hw,Int.toNat_natCast,List.getElem?_map,hget,h1,h2]|(refine hK _ ?_;clear hK K')|apply And.intro|exact zlo|omega|exact zms)
        all_goals first|(refine QM _ rfl ?_;simp only [go_sem];done)
    · have hok:Xs s = false:=by rw [Xs,← hinv];simp only [List.any_cons,aae,h1,Bool.or_true,Bool.true_or,Bool.not_true,Bool.false_and]
      rw [hok]
      repeat' (first|refine Qb fun K' hK=>?_|refine Qe fun K' hK=>?_|refine Qc ?_|refine Qd ?_|refine Qa ?_|((first|refine Qg ⟨_,rfl,fun hc=>?_,fun hc=>?_⟩|refine Qs (fun hc=>?_) (fun hc=>?_)|refine Qt (fun hc=>?_) (fun hc=>?_))<;>first|(cases hc;done)|((try simp only [znz] at hc);first|exact znf|skip))|refine Qi ?_|refine Qf ?_|simp (maxSteps:=1000000) only [go_sem,Xy,e1,hw,Int.toNat_natCast,List.getElem?_map,hget,h1]|(refine hK _ ?_;clear hK K')|apply And.intro|exact zlo|omega|exact zms)
      all_goals first|(refine QM _ rfl ?_;simp only [go_sem];done)
def jf (Jp:Nat):AC:=Qo [1] (.reg [xo 1 (.box true 2 (.t 0)),mc 2 (V.bool false)]) (Qo [2] (.reg [fa 3 0 1,ld 4 1 3,ln 5 4,bc 6 .eql 5 (V.int 0),mv 7 6,xg 8 (.faddr 0 (.t 1)) 7 false,xg 9 (.load false 1 (.t 8)) 7 false,xg 10 (.call Jp [(.t 9)]) 7 false,xo 11 (.pick (.t 7) (.c (V.bool true)) (.t 10)),mv 12 11,xg 13 (.faddr 1 (.t 1)) 12 true,xg 14 (.load false 1 (.t 13)) 12 true,xg 15 (.lenL (.t 14)) 12 true,xg 16 (.bin .eql (.t 15) (.c (V.int 0))) 12 true,mg 17 16 12 true,xg 18 (.faddr 1 (.t 1)) 17 false,xg 19 (.load false 1 (.t 18)) 17 false,xg 20 (.call Jp [(.t 19)]) 17 false,xg 21 (.pick (.t 17) (.c (V.bool true)) (.t 20)) 12 true,xo 22 (.pick (.t 12) (.t 21) (.c (V.bool false))),mv 2 22]) (.ret)) def r_packages_ranged:List X0:=[.tmp 2]
def UH (Γ:Env) (f:Nat):Prop:=∀ (lo up:List Int) (ha:lo.length < 2 ^ 60) (hb:up.length < 2 ^ 60),EvN Γ f [ye lo up] (V.bool (Wt lo up))
theorem abP {Γ:Env} {f Jp:Nat} (h:Has Γ.P f 23 (jf Jp) r_packages_ranged) (Jo:WE Γ Jp):UH Γ f:=by
  intro lo up ha hb
  refine QQ h (by simp) (by simp only [V.closed,Qn,V.noSl,Jx,and_self,and_true,true_and]) (by simp only [V.closed,Qn,V.noSl,Jx,and_self,and_true,true_and]) fun C hC hm=>?_
  subst hC
  unfold jf
  have c1:=(Jo lo (by omega)).b
  have c2:=(Jo up (by omega)).b
  have e1:=jL lo
  have e2:=jL up
  unfold Wt
  rcases h1:lo.isEmpty with _|_<;>rcases h2:up.isEmpty with _|_<;>rcases h3:UL lo with _|_<;>rw [h1] at e1<;>rw [h2] at e2<;>rw [h3] at c1
  all_goals
    repeat' (first|refine Qb fun K' hK=>?_|refine Qe fun K' hK=>?_|refine Qc ?_|refine Qd ?_|refine Qa ?_|((first|refine Qg ⟨_,rfl,fun hc=>?_,fun hc=>?_⟩|refine Qs (fun hc=>?_) (fun hc=>?_)|refine Qt (fun hc=>?_) (fun hc=>?_))<;>first|(cases hc;done)|((try simp only [znz] at hc);first|exact znf|skip))|refine Qi ?_|refine Qf ?_|simp (maxSteps:=1000000) only [go_sem,e1,e2,h1,h2,h3]|(refine hK _ ?_;clear hK K')|apply And.intro|(apply Qv;(focus first|exact c1|exact c2|exact (Jo _ zsd).b))|exact zlo|omega|exact zms)
    all_goals first|(refine QM _ rfl ?_;simp only [go_sem];done)|(refine QM _ rfl ?_;simp only [go_sem];simp;done)
def qC:AC:=Qo [1] (.reg [xo 1 (.box true 3 (.t 0)),mc 2 (V.bool false)]) (Qo [2] (.reg [fa 3 2 1,ld 4 1 3,ln 5 4,bc 6 .gtr 5 (V.int 8),mv 2 6]) (.ret)) def r_packages_Check_1:List X0:=[.tmp 2]
def K5 (Γ:Env) (f:Nat):Prop:=∀ (p:Qu),EvN Γ f [p.v] (V.bool (decide ((p.needs.length:Int) > 8)))
theorem aa8 {Γ:Env} {f:Nat} (h:Has Γ.P f 7 qC r_packages_Check_1) :K5 Γ f:=by
  intro p
  refine QQ h (by simp) (by simp only [V.closed,Qn,V.noSl,Jx,and_self,and_true,true_and]) (by simp only [V.closed,Qn,V.noSl,Jx,and_self,and_true,true_and]) fun C hC hm=>?_
  subst hC
  unfold qC
  repeat' (first|refine Qb fun K' hK=>?_|refine Qe fun K' hK=>?_|refine Qc ?_|refine Qd ?_|refine Qa ?_|((first|refine Qg ⟨_,rfl,fun hc=>?_,fun hc=>?_⟩|refine Qs (fun hc=>?_) (fun hc=>?_)|refine Qt (fun hc=>?_) (fun hc=>?_))<;>first|(cases hc;done)|((try simp only [znz] at hc);first|exact znf|skip))|refine Qi ?_|refine Qf ?_|simp (maxSteps:=1000000) only [go_sem,Qu.v,Qu.cells,List.length_map]|(refine hK _ ?_;clear hK K')|apply And.intro|exact zlo|omega|exact zms)
  all_goals first|(refine QM _ rfl ?_;simp only [go_sem];done)
def qB (Wm:Nat):AC:=Qo [1] (.reg [xo 1 (.box true 3 (.t 0)),mc 2 (V.bool false)]) (Qo [2] (.reg [fa 3 0 1,ld 4 1 3,cl 5 Wm [4],xo 6 (.un .not (.t 5)),mv 2 6]) (.ret)) def r_packages_Check_2:List X0:=[.tmp 2]
def K0 (Γ:Env) (f:Nat):Prop:=∀ (p:Qu) (hn:p.name.length < 2 ^ 60),EvN Γ f [p.v] (V.bool (!Xs p.name))
theorem aa7 {Γ:Env} {f Wm:Nat} (h:Has Γ.P f 7 (qB Wm) r_packages_Check_2) (yx:KD Γ Wm):K0 Γ f:=by
  intro p hn
  refine QQ h (by simp) (by simp only [V.closed,Qn,V.noSl,Jx,and_self,and_true,true_and]) (by simp only [V.closed,Qn,V.noSl,Jx,and_self,and_true,true_and]) fun C hC hm=>?_
  subst hC
  unfold qB
  repeat' (first|refine Qb fun K' hK=>?_|refine Qe fun K' hK=>?_|refine Qc ?_|refine Qd ?_|refine Qa ?_|((first|refine Qg ⟨_,rfl,fun hc=>?_,fun hc=>?_⟩|refine Qs (fun hc=>?_) (fun hc=>?_)|refine Qt (fun hc=>?_) (fun hc=>?_))<;>first|(cases hc;done)|((try simp only [znz] at hc);first|exact znf|skip))|refine Qi ?_|refine Qf ?_|simp (maxSteps:=1000000) only [go_sem,Qu.v,Qu.cells]|(refine hK _ ?_;clear hK K')|apply And.intro|(apply Qv;(focus first|exact (yx _ zsd).b))|exact zlo|omega|exact zms)
  all_goals first|(refine QM _ rfl ?_;simp only [go_sem];done)
def qA (Wm:Nat):AC:=Qo [1] (.reg [xo 1 (.box true 3 (.t 0)),mc 2 (V.bool false)]) (Qo [2] (.reg [fa 3 0 1,ld 4 1 3,cl 5 Wm [4],xo 6 (.un .not (.t 5)),mv 2 6]) (.ret)) def r_packages_Check_3:List X0:=[.tmp 2]
def KZ (Γ:Env) (f:Nat):Prop:=∀ (p:JS) (hn:p.name.length < 2 ^ 60),EvN Γ f [p.v] (V.bool (!Xs p.name))
theorem aa6 {Γ:Env} {f Wm:Nat} (h:Has Γ.P f 7 (qA Wm) r_packages_Check_3) (yx:KD Γ Wm):KZ Γ f:=by
  intro p hn
  refine QQ h (by simp) (by simp only [V.closed,Qn,V.noSl,Jx,and_self,and_true,true_and]) (by simp only [V.closed,Qn,V.noSl,Jx,and_self,and_true,true_and]) fun C hC hm=>?_
  subst hC
  unfold qA
  repeat' (first|refine Qb fun K' hK=>?_|refine Qe fun K' hK=>?_|refine Qc ?_|refine Qd ?_|refine Qa ?_|((first|refine Qg ⟨_,rfl,fun hc=>?_,fun hc=>?_⟩|refine Qs (fun hc=>?_) (fun hc=>?_)|refine Qt (fun hc=>?_) (fun hc=>?_))<;>first|(cases hc;done)|((try simp only [znz] at hc);first|exact znf|skip))|refine Qi ?_|refine Qf ?_|simp (maxSteps:=1000000) only [go_sem,JS.v,JS.cells]|(refine hK _ ?_;clear hK K')|apply And.intro|(apply Qv;(focus first|exact (yx _ zsd).b))|exact zlo|omega|exact zms)
  all_goals first|(refine QM _ rfl ?_;simp only [go_sem];done)
def qz (Jp:Nat):AC:=Qo [1] (.reg [xo 1 (.box true 3 (.t 0)),mc 2 (V.bool false)]) (Qo [2] (.reg [fa 3 1 1,ld 4 1 3,cl 5 Jp [4],xo 6 (.un .not (.t 5)),mv 2 6]) (.ret)) def r_packages_Check_4:List X0:=[.tmp 2]
def KY (Γ:Env) (f:Nat):Prop:=∀ (p:Qu) (hn:p.ver.length < 2 ^ 60),EvN Γ f [p.v] (V.bool (!UL p.ver))
theorem aa5 {Γ:Env} {f Jp:Nat} (h:Has Γ.P f 7 (qz Jp) r_packages_Check_4) (Jo:WE Γ Jp):KY Γ f:=by
  intro p hn
  refine QQ h (by simp) (by simp only [V.closed,Qn,V.noSl,Jx,and_self,and_true,true_and]) (by simp only [V.closed,Qn,V.noSl,Jx,and_self,and_true,true_and]) fun C hC hm=>?_
  subst hC
  unfold qz
  have g:=(Jo p.ver (by omega)).b
  repeat' (first|refine Qb fun K' hK=>?_|refine Qe fun K' hK=>?_|refine Qc ?_|refine Qd ?_|refine Qa ?_|((first|refine Qg ⟨_,rfl,fun hc=>?_,fun hc=>?_⟩|refine Qs (fun hc=>?_) (fun hc=>?_)|refine Qt (fun hc=>?_) (fun hc=>?_))<;>first|(cases hc;done)|((try simp only [znz] at hc);first|exact znf|skip))|refine Qi ?_|refine Qf ?_|simp (maxSteps:=1000000) only [go_sem,Qu.v,Qu.cells]|(refine hK _ ?_;clear hK K')|apply And.intro|(apply Qv;(focus first|exact g|exact (Jo _ zsd).b))|exact zlo|omega|exact zms)
  all_goals first|(refine QM _ rfl ?_;simp only [go_sem];done)
def qy (Xo:Nat):AC:=Qo [1] (.reg [xo 1 (.box true 3 (.t 0)),mc 2 (V.bool false)]) (Qo [2] (.reg [fa 3 1 1,xo 4 (.load true 2 (.t 3)),cl 5 Xo [4],xo 6 (.un .not (.t 5)),mv 2 6]) (.ret)) def r_packages_Check_5:List X0:=[.tmp 2]
def KX (Γ:Env) (f:Nat):Prop:=∀ (p:JS) (ha:p.lo.length < 2 ^ 60) (hb:p.up.length < 2 ^ 60),EvN Γ f [p.v] (V.bool (!Wt p.lo p.up))
theorem aa4 {Γ:Env} {f Xo:Nat} (h:Has Γ.P f 7 (qy Xo) r_packages_Check_5) (VK:UH Γ Xo):KX Γ f:=by
  intro p ha hb
  refine QQ h (by simp) (by simp only [V.closed,Qn,V.noSl,Jx,and_self,and_true,true_and]) (by simp only [V.closed,Qn,V.noSl,Jx,and_self,and_true,true_and]) fun C hC hm=>?_
  subst hC
  unfold qy
  have g:=(VK p.lo p.up ha hb).b
  repeat' (first|refine Qb fun K' hK=>?_|refine Qe fun K' hK=>?_|refine Qc ?_|refine Qd ?_|refine Qa ?_|((first|refine Qg ⟨_,rfl,fun hc=>?_,fun hc=>?_⟩|refine Qs (fun hc=>?_) (fun hc=>?_)|refine Qt (fun hc=>?_) (fun hc=>?_))<;>first|(cases hc;done)|((try simp only [znz] at hc);first|exact znf|skip))|refine Qi ?_|refine Qf ?_|simp (maxSteps:=1000000) only [go_sem,JS.v,JS.cells]|(refine hK _ ?_;clear hK K')|apply And.intro|(apply Qv;(focus first|exact g|exact (VK _ _ zsd zsd).b))|exact zlo|omega|exact zms)
  all_goals first|(refine QM _ rfl ?_;simp only [go_sem];done)
def jY (Q7:Nat):AC:=Qo [1,2,3] (.reg [xo 3 (.box true 3 (.t 0)),mc 4 (V.bool false)]) (Qo [4] (.reg [ld 5 1 1,xo 6 (.load true 3 (.t 3)),xo 7 (.callv (.t 5) [(.t 6)]),mv 8 7,xg 9 (.faddr 2 (.t 3)) 8 false,xg 10 (.load false 1 (.t 9)) 8 false,xg 11 (.load false 1 (.t 2)) 8 false,xg 12 (.call Q7 [(.t 10),(.t 11)]) 8 false,xo 13 (.pick (.t 8) (.c (V.bool true)) (.t 12)),mv 4 13]) (.ret)) def r_packages_any_1:List X0:=[.tmp 4]
def jv (Γ:Env) (f:Nat):Prop:=∀ (x:Qu) (g1:Nat) (c1:List V) (g2:Nat) (c2:List V) (p:Qu→Bool) (q:JS→Bool) (hp:EvN Γ g1 (x.v :: c1) (V.bool (p x))) (hq:∀ y∈x.needs,EvN Γ g2 (y.v :: c2) (V.bool (q y))) (hc1:Qn c1) (hc2:Qn c2) (hl:x.needs.length < 2 ^ 62),EvN Γ f [x.v,.ro [.clo g1 c1] 0,.ro [.clo g2 c2] 0] (V.bool (p x || x.needs.any q))
theorem acZ {Γ:Env} {f Q7:Nat} (h:Has Γ.P f 14 (jY Q7) r_packages_any_1) (Q0:Yf Γ Q7):jv Γ f:=by
  intro x g1 c1 g2 c2 p q hp hq hc1 hc2 hl
  refine QQ h (by simp) (by simp only [V.closed,Qn,V.noSl,Jx,and_self,and_true,true_and]) (by simp only [V.closed,Qn,V.noSl,Jx,and_self,and_true,true_and]) fun C hC hm=>?_
  subst hC
  unfold jY
  have s1:∀ o,Wy o c1 = c1:=fun o=>YW o c1 hc1
  have s2:∀ o B,JU o B c1 = True:=fun o B=>eq_true (Yo o B c1 hc1)
  have s3:∀ o,Wy o c2 = c2:=fun o=>YW o c2 hc2
  have s4:∀ o B,JU o B c2 = True:=fun o B=>eq_true (Yo o B c2 hc2)
  have gq:=(Q0 x.needs g2 c2 q hq hc2 hl).b
  have gp:=hp.b
  simp only [Qu.v,Qu.cells] at gp
  rcases hpx:p x with _|_
  · rw [hpx] at gp
    repeat' (first|refine Qb fun K' hK=>?_|refine Qe fun K' hK=>?_|refine Qc ?_|refine Qd ?_|refine Qa ?_|((first|refine Qg ⟨_,rfl,fun hc=>?_,fun hc=>?_⟩|refine Qs (fun hc=>?_) (fun hc=>?_)|refine Qt (fun hc=>?_) (fun hc=>?_))<;>first|(cases hc;done)|((try simp only [znz] at hc);first|exact znf|skip))|refine Qi ?_|refine Qf ?_|simp (maxSteps:=1000000) only [go_sem,Qu.v,Qu.cells,s1,s2,s3,s4]|(refine hK _ ?_;clear hK K')|apply And.intro|(apply Qv;(focus first|exact gp|exact gq|exact (Q0 _ _ _ _ zsd zsd zsd).b))|exact zlo|omega|exact zms)
    all_goals first|(refine QM _ rfl ?_;simp only [go_sem];done)|(refine QM _ rfl ?_;simp only [go_sem];simp;done)
  · rw [hpx] at gp
    repeat' (first|refine Qb fun K' hK=>?_|refine Qe fun K' hK=>?_|refine Qc ?_|refine Qd ?_|refine Qa ?_|((first|refine Qg ⟨_,rfl,fun hc=>?_,fun hc=>?_⟩|refine Qs (fun hc=>?_) (fun hc=>?_)|refine Qt (fun hc=>?_) (fun hc=>?_))<;>first|(cases hc;done)|((try simp only [znz] at hc);first|exact znf|skip))|refine Qi ?_|refine Qf ?_|simp (maxSteps:=1000000) only [go_sem,Qu.v,Qu.cells,s1,s2,s3,s4]|(refine hK _ ?_;clear hK K')|apply And.intro|(apply Qv;(focus first|exact gp|exact gq|exact (Q0 _ _ _ _ zsd zsd zsd).b))|exact zlo|omega|exact zms)
    all_goals first|(refine QM _ rfl ?_;simp only [go_sem];done)|(refine QM _ rfl ?_;simp only [go_sem];simp;done)
end Av
end
section
set_option linter.unusedSimpArgs false
set_option linter.unusedVariables false
set_option maxRecDepth 10000
set_option maxHeartbeats 4000000
namespace Av
open Go
attribute [local irreducible] AWp WY Vp Vq awS awC V1 awQ Uh Q9 YQ VZ awR YT awB okR Ww ris
theorem ai2 {n:Int} (h0:0≤n) (h1:n < 2 ^ 64):IntKind.u64.wrap n = n:=by
  have e1:IntKind.u64.bits = 64:=rfl
  have e2:IntKind.u64.signed = false:=rfl
  simp only [IntKind.wrap,e1,e2,Bool.false_and,Bool.false_eq_true,if_false]
  omega
abbrev V.u64 (n:Int):V:=.sc (.int .u64 n)
def ap0:Nat→Int
  | 0=>0|1=>1|2=>2|3=>2|4=>3|5=>3|6=>3|7=>3|8=>4|9=>4|10=>4|11=>4|_=>4
def jk:AC:=Qo [0,2] (.reg [mc 2 (V.int 0)]) (Qo [0,2] (Qo [0,2,4] (.reg [mv 3 0,bc 4 .geq 3 (.sc (.int .u64 4294967296))]) (.cond (.t 4) (Qo [0] (.reg [mv 5 0,bc 6 .shr 5 (.sc (.int .u64 32)),mv 0 6]) (.reg [mc 2 (V.int 32)])) (.skip))) (Qo [0,2] (Qo [0,2,8] (.reg [mv 7 0,bc 8 .geq 7 (.sc (.int .u64 65536))]) (.cond (.t 8) (Qo [0,2] (.reg [mv 9 0,bc 10 .shr 9 (.sc (.int .u64 16)),mv 0 10]) (.reg [mv 11 2,bc 12 .add 11 (V.int 16),mv 2 12])) (.skip))) (Qo [0,2] (Qo [0,2,14] (.reg [mv 13 0,bc 14 .geq 13 (.sc (.int .u64 256))]) (.cond (.t 14) (Qo [0,2] (.reg [mv 15 0,bc 16 .shr 15 (.sc (.int .u64 8)),mv 0 16]) (.reg [mv 17 2,bc 18 .add 17 (V.int 8),mv 2 18])) (.skip))) (Qo [2] (.reg [mv 19 2,mv 20 0,xo 21 (.convI .u8 (.t 20)),xo 22 (.idxS (.c (V.str [0,1,2,2,3,3,3,3,4,4,4,4,4,4,4,4,5,5,5,5,5,5,5,5,5,5,5,5,5,5,5,5,6,6,6,6,6,6,6,6,6,6,6,6,6,6,6,6,6,6,6,6,6,6,6,6,6,6,6,6,6,6,6,6,7,7,7,7,7,7,7,7,7,7,7,7,7,7,7,7,7,7,7,7,7,7,7,7,7,7,7,7,7,7,7,7,7,7,7,7,7,7,7,7,7,7,7,7,7,7,7,7,7,7,7,7,7,7,7,7,7,7,7,7,7,7,7,7,8,8,8,8,8,8,8,8,8,8,8,8,8,8,8,8,8,8,8,8,8,8,8,8,8,8,8,8,8,8,8,8,8,8,8,8,8,8,8,8,8,8,8,8,8,8,8,8,8,8,8,8,8,8,8,8,8,8,8,8,8,8,8,8,8,8,8,8,8,8,8,8,8,8,8,8,8,8,8,8,8,8,8,8,8,8,8,8,8,8,8,8,8,8,8,8,8,8,8,8,8,8,8,8,8,8,8,8,8,8,8,8,8,8,8,8,8,8,8,8,8,8,8,8,8,8,8,8])) (.t 21)),xo 23 (.convI .i64 (.t 22)),bn 24 .add 19 23,mv 2 24]) (.ret))))) def r_math_bits_Len64:List X0:=[.tmp 2]
def qO (Γ:Env) (f:Nat):Prop:=∀ (n:Nat) (hn:n≤12),EvN Γ f [V.u64 n] (V.int (ap0 n))
theorem abU {Γ:Env} {f:Nat} (h:Has Γ.P f 25 jk r_math_bits_Len64) :qO Γ f:=by
  intro n hn
  refine QQ h (by simp) (by simp only [V.closed,Qn,V.noSl,Jx,and_self,and_true,true_and]) (by simp only [V.closed,Qn,V.noSl,Jx,and_self,and_true,true_and]) fun C hC hm=>?_
  subst hC
  unfold jk
  have hn':n = 0∨n = 1∨n = 2∨n = 3∨n = 4∨n = 5∨n = 6∨n = 7∨n = 8∨n = 9∨n = 10∨n = 11∨n = 12:=by omega
  have e1:decide ((n:Int)≥4294967296) = false:=by simp;omega
  have e2:decide ((n:Int)≥65536) = false:=by simp;omega
  have e3:decide ((n:Int)≥256) = false:=by simp;omega
  have hw:IntKind.u8.wrap (n:Int) = (n:Int):=anY (by omega) (by omega)
  obtain ⟨c,hc1,hc2⟩:∃ c:UInt8,([0,1,2,2,3,3,3,3,4,4,4,4,4]:List UInt8)[n]? = some c∧(c.toNat:Int) = ap0 n:=by
    rcases hn' with rfl|rfl|rfl|rfl|rfl|rfl|rfl|rfl|rfl|rfl|rfl|rfl|rfl<;>exact ⟨_,rfl,rfl⟩
  have hget:∀ l:List UInt8,l.take 13 = [0,1,2,2,3,3,3,3,4,4,4,4,4]→l[n]? = some c:=fun l hl=>by
    rw [← hc1,← hl,List.getElem?_take,if_pos (by omega)]
  have hc3:0≤(c.toNat:Int)∧(c.toNat:Int) < 256:=by have:=c.toNat_lt;omega
  have hw2:IntKind.i64.wrap (c.toNat:Int) = (c.toNat:Int):=WW (by omega) (by omega)
  have hw3:IntKind.i64.wrap (0 + (c.toNat:Int)) = (c.toNat:Int):=by rw [Int.zero_add,hw2]
  rw [← hc2]
  have hg:([0,1,2,2,3,3,3,3,4,4,4,4,4,4,4,4,5,5,5,5,5,5,5,5,5,5,5,5,5,5,5,5,6,6,6,6,6,6,6,6,6,6,6,6,6,6,6,6,6,6,6,6,6,6,6,6,6,6,6,6,6,6,6,6,7,7,7,7,7,7,7,7,7,7,7,7,7,7,7,7,7,7,7,7,7,7,7,7,7,7,7,7,7,7,7,7,7,7,7,7,7,7,7,7,7,7,7,7,7,7,7,7,7,7,7,7,7,7,7,7,7,7,7,7,7,7,7,7,8,8,8,8,8,8,8,8,8,8,8,8,8,8,8,8,8,8,8,8,8,8,8,8,8,8,8,8,8,8,8,8,8,8,8,8,8,8,8,8,8,8,8,8,8,8,8,8,8,8,8,8,8,8,8,8,8,8,8,8,8,8,8,8,8,8,8,8,8,8,8,8,8,8,8,8,8,8,8,8,8,8,8,8,8,8,8,8,8,8,8,8,8,8,8,8,8,8,8,8,8,8,8,8,8,8,8,8,8,8,8,8,8,8,8,8,8,8,8,8,8,8,8,8,8,8,8,8]:List UInt8)[n]? = some c:=hget _ rfl
  repeat' (first|refine Qb fun K' hK=>?_|refine Qe fun K' hK=>?_|refine Qc ?_|refine Qd ?_|refine Qa ?_|((first|refine Qg ⟨_,rfl,fun hc=>?_,fun hc=>?_⟩|refine Qs (fun hc=>?_) (fun hc=>?_)|refine Qt (fun hc=>?_) (fun hc=>?_))<;>first|(cases hc;done)|((try simp only [znz] at hc);first|exact znf|skip))|refine Qi ?_|refine Qf ?_|simp (maxSteps:=1000000) only [go_sem,e1,e2,e3,hw,hg,hw2,hw3]|(refine hK _ ?_;clear hK K')|apply And.intro|exact zlo|omega|exact zms)
  all_goals first|(refine QM _ rfl ?_;simp only [go_sem];done)
def yI (jb U4:Nat):AC:=Qo [0] (.reg [mc 2 (V.int 0)]) (Qo [0] (.cond (.c (V.bool false)) (Qo [2] (.reg [mv 3 0,xo 4 (.convI .u32 (.t 3)),cl 5 jb [4],mv 2 5]) (.ret)) (.skip)) (Qo [2] (.reg [mv 6 0,cl 7 U4 [6],mv 2 7]) (.ret))) def r_math_bits_Len:List X0:=[.tmp 2]
def Uu (Γ:Env) (f:Nat):Prop:=∀ (n:Nat) (hn:n≤12),EvN Γ f [V.u64 n] (V.int (ap0 n))
theorem adP {Γ:Env} {f jb U4:Nat} (h:Has Γ.P f 8 (yI jb U4) r_math_bits_Len) (acT:qO Γ U4):Uu Γ f:=by
  intro n hn
  refine QQ h (by simp) (by simp only [V.closed,Qn,V.noSl,Jx,and_self,and_true,true_and]) (by simp only [V.closed,Qn,V.noSl,Jx,and_self,and_true,true_and]) fun C hC hm=>?_
  subst hC
  unfold yI
  repeat' (first|refine Qb fun K' hK=>?_|refine Qe fun K' hK=>?_|refine Qc ?_|refine Qd ?_|refine Qa ?_|((first|refine Qg ⟨_,rfl,fun hc=>?_,fun hc=>?_⟩|refine Qs (fun hc=>?_) (fun hc=>?_)|refine Qt (fun hc=>?_) (fun hc=>?_))<;>first|(cases hc;done)|((try simp only [znz] at hc);first|exact znf|skip))|refine Qi ?_|refine Qf ?_|simp (maxSteps:=1000000) only [go_sem]|(refine hK _ ?_;clear hK K')|apply And.intro|(apply Qv;(focus first|exact (acT _ zsd).b))|exact zlo|omega|exact zms)
  all_goals first|(refine QM _ rfl ?_;simp only [go_sem];done)
theorem age {Γ:Env} {f:Nat} (h:Uu Γ f) (n:Nat) (hn:n≤12):∃ lim:Int,EvN Γ f [V.u64 n] (V.int lim):=⟨_,h n hn⟩
def xG (Xd:Nat):AC:=Qo [0,1] (.reg [mc 4 (V.bool false)]) (Qo [4] (.reg [mv 5 0,cl 6 Xd [5],mv 7 6,mg 8 1 7 true,xg 9 (.call Xd [(.t 8)]) 7 true,xg 10 (.un .not (.t 9)) 7 true,xo 11 (.pick (.t 7) (.t 10) (.c (V.bool false))),mv 12 11,mg 13 0 12 false,mg 14 1 12 false,xg 15 (.bin .lss (.t 13) (.t 14)) 12 false,xo 16 (.pick (.t 12) (.c (V.bool true)) (.t 15)),mv 4 16]) (.ret)) def r_cmp_Less_int:List X0:=[.tmp 4]
def qP (Γ:Env) (f:Nat):Prop:=∀ (a b:Int),EvN Γ f [V.int a,V.int b] (V.bool (decide (a < b)))
theorem aeQ {Γ:Env} {f Xd:Nat} (h:Has Γ.P f 17 (xG Xd) r_cmp_Less_int) (UQ:KC Γ Xd):qP Γ f:=by
  intro a b
  refine QQ h (by simp) (by simp only [V.closed,Qn,V.noSl,Jx,and_self,and_true,true_and]) (by simp only [V.closed,Qn,V.noSl,Jx,and_self,and_true,true_and]) fun C hC hm=>?_
  subst hC
  unfold xG
  repeat' (first|refine Qb fun K' hK=>?_|refine Qe fun K' hK=>?_|refine Qc ?_|refine Qd ?_|refine Qa ?_|((first|refine Qg ⟨_,rfl,fun hc=>?_,fun hc=>?_⟩|refine Qs (fun hc=>?_) (fun hc=>?_)|refine Qt (fun hc=>?_) (fun hc=>?_))<;>first|(cases hc;done)|((try simp only [znz] at hc);first|exact znf|skip))|refine Qi ?_|refine Qf ?_|simp (maxSteps:=1000000) only [go_sem]|(refine hK _ ?_;clear hK K')|apply And.intro|(apply Qv;(focus first|exact (UQ _).b))|exact zlo|omega|exact zms)
  all_goals first|(refine QM _ rfl ?_;simp only [go_sem];done)
end Av
end
section
set_option linter.unusedSimpArgs false
set_option linter.unusedVariables false
set_option maxRecDepth 10000
set_option maxHeartbeats 4000000
namespace Av
open Go
attribute [local irreducible] AWp WY Vp Vq awS awC V1 awQ Uh Q9 YQ VZ awR YT awB okR Ww ris
section
variable {α:Type}
def vk (eq:α→α→Bool):α→List α→List α
  | _,[]=>[]
  | p,x :: r=>if eq x p = true then vk eq x r else x :: vk eq x r
def aap (eq:α→α→Bool):List α→List α
  | []=>[]
  | x :: r=>x :: vk eq x r
theorem ahB {eq:α→α→Bool} (he:∀ x y,eq x y = true→x = y) {y:α}:∀ (l:List α) (p:α),y∈p :: vk eq p l↔y∈p :: l
  | [],p=>by simp [vk]
  | x :: r,p=>by
    have ih:=ahB he (y:=y) r x
    rw [vk]
    by_cases h:eq x p = true
    · rw [if_pos h]
      have:=he _ _ h
      subst this
      rw [ih];simp
    · rw [if_neg h,List.mem_cons,ih,List.mem_cons (a:=y) (l:=x :: r)]
theorem ama {eq:α→α→Bool} (he:∀ x y,eq x y = true→x = y) {y:α}:∀ l:List α,y∈aap eq l↔y∈l
  | []=>by simp [aap]
  | x :: r=>ahB he r x
end
end Av
end
section
set_option linter.unusedSimpArgs false
set_option linter.unusedVariables false
set_option maxRecDepth 10000
set_option maxHeartbeats 4000000
namespace Av
open Go
attribute [local irreducible] AWp WY Vp Vq awS awC V1 awQ Uh Q9 YQ VZ awR YT awB okR Ww ris
abbrev PU:=Int×Int
def usV (u:PU):V:=.agg [V.int u.1,V.int u.2]
end Av
end
section
set_option linter.unusedSimpArgs false
set_option linter.unusedVariables false
set_option maxRecDepth 10000
set_option maxHeartbeats 4000000
namespace Av
open Go
attribute [local irreducible] AWp WY Vp Vq awS awC V1 awQ Uh Q9 YQ VZ awR YT awB okR Ww ris
def XG:AC:=Qo [0,1] (.reg [mc 4 (V.int 0)]) (Qo [] (Qo [0,1,7,8] (.reg [mv 6 0,ln 7 6,mc 8 (V.int 0)]) (.block 0 (X1 [0,1,7,8] (Qo [0,1,7,8,9] (.reg [bn 9 .lss 8 7]) (Qo [0,1,7,8] (.cond (.t 9) (.skip) (.exit 0)) (Qo [0,1,7,8] (.block 1 (Qo [0,1,5,7,8] (.reg [mv 10 8,mv 5 10]) (Qo [0,1,5,7,8,16] (.reg [mv 11 1,mv 12 0,mv 13 5,ia 14 2 12 13,xo 15 (.load true 2 (.t 14)),xo 16 (.callv (.t 11) [(.t 15)])]) (.cond (.t 16) (Qo [4] (.reg [mv 17 5,mv 4 17]) (.ret)) (.skip))))) (.reg [bc 18 .add 8 (V.int 1),mv 8 18]))))))) (Qo [4] (.reg [mc 4 (V.int (-1))]) (.ret))) def r_slices_IndexFunc___api_Use_api_Use:List X0:=[.tmp 4]
def Xv (Γ:Env) (f:Nat):Prop:=∀ (xs:List PU) (g:Nat) (cap:List V) (p:PU→Bool) (hp:∀ x∈xs,EvN Γ g (usV x :: cap) (V.bool (p x))) (hcap:Qn cap) (hl:xs.length < 2 ^ 62),EvN Γ f [.sl 2 (xs.map usV),.clo g cap] (V.int (abi p 0 xs))
theorem Kf {Γ:Env} {f:Nat} (h:Has Γ.P f 19 XG r_slices_IndexFunc___api_Use_api_Use) :Xv Γ f:=by
  intro xs g cap p hp hcap hl
  refine QQ h (by simp) (by simp only [V.closed,Qn,V.noSl,Jx,and_self,and_true,true_and]) (by simp only [V.closed,Qn,V.noSl,Jx,and_self,and_true,true_and]) fun C hC hm=>?_
  subst hC
  unfold XG
  have s1:∀ o,Wy o cap = cap:=fun o=>YW o cap hcap
  have s2:∀ o B,JU o B cap = True:=fun o B=>eq_true (Yo o B cap hcap)
  repeat' (first|refine Qb fun K' hK=>?_|refine Qe fun K' hK=>?_|refine Qc ?_|refine Qd ?_|refine Qa ?_|((first|refine Qg ⟨_,rfl,fun hc=>?_,fun hc=>?_⟩|refine Qs (fun hc=>?_) (fun hc=>?_)|refine Qt (fun hc=>?_) (fun hc=>?_))<;>first|(cases hc;done)|((try simp only [znz] at hc);first|exact znf|skip))|refine Qi ?_|refine Qf ?_|simp (maxSteps:=1000000) only [go_sem]|(refine hK _ ?_;clear hK K')|apply And.intro|exact zlo|omega|exact zms)
  refine Xf (ι:=Nat) (fun k=>k≤xs.length∧abi p k (xs.drop k) = abi p 0 xs) (fun k=>[(8,V.int k)]) (fun k=>xs.length - k) 0 (by omega) ⟨by simp,by simp⟩ (by repeat' first|exact We|refine Vk (by omega) (by simp only [Ob.lt,ltL,V.lt,and_self,and_true];try omega) ?_) (fun i hi=>by simp only [ovT,J5,Nat.reduceEqDiff,reduceIte];(repeat' first|exact Vj|refine Wd ?_ ?_|simp only [V.lt,ltL,and_self,and_true]|omega);exact K8 _ _ hcap) (by simp only [Nat.reduceAdd,ovT,J5,Nat.reduceEqDiff,reduceIte,JA,JW,qV,u32,u33,u34,u35,u36,u37,u38,u39,and_self,and_true,true_and];first|rfl|exact Qh _ _ hcap) fun k hk K' hL=>?_
  obtain ⟨hk,hinv⟩:=hk
  simp only [ovT,J5,Nat.reduceEqDiff,reduceIte]
  rcases hd:xs.drop k with _|⟨y,r⟩
  · have:=Xx hd
    rw [hd] at hinv
    have e1:decide ((k:Int) < (((xs.map usV).length:Nat):Int)) = false:=by simp;omega
    repeat' (first|refine Qb fun K' hK=>?_|refine Qe fun K' hK=>?_|refine Qc ?_|refine Qd ?_|refine Qa ?_|((first|refine Qg ⟨_,rfl,fun hc=>?_,fun hc=>?_⟩|refine Qs (fun hc=>?_) (fun hc=>?_)|refine Qt (fun hc=>?_) (fun hc=>?_))<;>first|(cases hc;done)|((try simp only [znz] at hc);first|exact znf|skip))|refine Qi ?_|refine Qf ?_|simp (maxSteps:=1000000) only [go_sem,e1]|(refine hK _ ?_;clear hK K')|apply And.intro|exact zlo|omega|exact zms)
    refine QM _ rfl ?_
    simp only [go_sem]
    rw [← hinv];rfl
  · obtain ⟨hk,hget,hr⟩:=Yy hd
    rw [hd] at hinv
    have hw:=Jq (k:=k) (by omega)
    have e1:decide ((k:Int) < (((xs.map usV).length:Nat):Int)) = true:=by simp;omega
    have hpy:=hp y (List.mem_of_getElem? hget)
    by_cases hy:p y = true
    · rw [hy] at hpy
      repeat' (first|refine Qb fun K' hK=>?_|refine Qe fun K' hK=>?_|refine Qc ?_|refine Qd ?_|refine Qa ?_|((first|refine Qg ⟨_,rfl,fun hc=>?_,fun hc=>?_⟩|refine Qs (fun hc=>?_) (fun hc=>?_)|refine Qt (fun hc=>?_) (fun hc=>?_))<;>first|(cases hc;done)|((try simp only [znz] at hc);first|exact znf|skip))|refine Qi ?_|refine Qf ?_|simp (maxSteps:=1000000) only [go_sem,Int.toNat_natCast,List.getElem?_map,hget,hw,e1,usV,s1,s2]|(refine hK _ ?_;clear hK K')|apply And.intro|(apply Qv;(focus first|exact hpy.b))|exact zlo|omega|exact zms)
      refine QM _ rfl ?_;simp only [go_sem]
      rw [← hinv];simp [abi,hy]
    · have hy':p y = false:=by simpa using hy
      rw [hy'] at hpy
      repeat' (first|refine Qb fun K' hK=>?_|refine Qe fun K' hK=>?_|refine Qc ?_|refine Qd ?_|refine Qa ?_|((first|refine Qg ⟨_,rfl,fun hc=>?_,fun hc=>?_⟩|refine Qs (fun hc=>?_) (fun hc=>?_)|refine Qt (fun hc=>?_) (fun hc=>?_))<;>first|(cases hc;done)|((try simp only [znz] at hc);first|exact znf|skip))|refine Qi ?_|refine Qf ?_|simp (maxSteps:=1000000) only [go_sem,Int.toNat_natCast,List.getElem?_map,hget,hw,e1,usV,s1,s2]|(refine hK _ ?_;clear hK K')|apply And.intro|(apply Qv;(focus first|exact hpy.b))|exact zlo|omega|exact zms)
      refine hL _ (k + 1) (by simp only [Nat.reduceAdd,ovT,J5,Nat.reduceEqDiff,reduceIte,JA,JW,qV,u32,u33,u34,u35,u36,u37,u38,u39,and_self,and_true,true_and]) ⟨by omega,?_⟩ (by omega) (fun a ha=>by simp only [u32,u33,u34,u35,u36,u37,u38,u39];repeat rw [if_neg (by omega)])
      rw [hr,← hinv,abi,if_neg hy]
def Xe (YK:Nat):AC:=Qo [0,1] (.reg [mc 4 (V.bool false)]) (Qo [4] (.reg [mv 5 0,mv 6 1,cl 7 YK [5,6],bc 8 .geq 7 (V.int 0),mv 4 8]) (.ret)) def r_slices_ContainsFunc___api_Use_api_Use:List X0:=[.tmp 4]
def Y6 (Γ:Env) (f:Nat):Prop:=∀ (xs:List PU) (g:Nat) (cap:List V) (p:PU→Bool) (hp:∀ x∈xs,EvN Γ g (usV x :: cap) (V.bool (p x))) (hcap:Qn cap) (hl:xs.length < 2 ^ 62),EvN Γ f [.sl 2 (xs.map usV),.clo g cap] (V.bool (xs.any p))
theorem UJ {Γ:Env} {f YK:Nat} (h:Has Γ.P f 9 (Xe YK) r_slices_ContainsFunc___api_Use_api_Use) (Vb:Xv Γ YK):Y6 Γ f:=by
  intro xs g cap p hp hcap hl
  refine QQ h (by simp) (by simp only [V.closed,Qn,V.noSl,Jx,and_self,and_true,true_and]) (by simp only [V.closed,Qn,V.noSl,Jx,and_self,and_true,true_and]) fun C hC hm=>?_
  subst hC
  unfold Xe
  have s1:∀ o,Wy o cap = cap:=fun o=>YW o cap hcap
  have s2:∀ o B,JU o B cap = True:=fun o B=>eq_true (Yo o B cap hcap)
  have hi:=(Vb xs g cap p hp hcap hl).b
  have e1:=yg p xs 0
  repeat' (first|refine Qb fun K' hK=>?_|refine Qe fun K' hK=>?_|refine Qc ?_|refine Qd ?_|refine Qa ?_|((first|refine Qg ⟨_,rfl,fun hc=>?_,fun hc=>?_⟩|refine Qs (fun hc=>?_) (fun hc=>?_)|refine Qt (fun hc=>?_) (fun hc=>?_))<;>first|(cases hc;done)|((try simp only [znz] at hc);first|exact znf|skip))|refine Qi ?_|refine Qf ?_|simp (maxSteps:=1000000) only [go_sem,s1,s2,e1]|(refine hK _ ?_;clear hK K')|apply And.intro|(apply Qv;(focus first|exact hi|exact (Vb _ _ _ _ zsd zsd zsd).b))|exact zlo|omega|exact zms)
  all_goals first|(refine QM _ rfl ?_;simp only [go_sem];done)
def XC:List AO:=[mv 16 0,mv 17 3,ia 18 2 16 17,xo 19 (.load true 2 (.t 18)),mv 20 0,mv 21 3,bc 22 .sub 21 (V.int 1),ia 23 2 20 22,xo 24 (.load true 2 (.t 23)),xo 25 (.eqagg false [0,0] (.t 19) (.t 24))]
def XI:List (List Nat):=[[],[],[0,1],[2],[],[],[5],[4,6],[7],[3,8]]
def XA:OT:=.one 0 (.one 1 (.one 2 (.one 3 (.one 4 (.one 5 (.one 6 (.one 7 (.one 8 (.one 9 (.done))))))))))
def Jb:OP:=.one 0 false [] (mv 16 0) (.one 1 false [] (mv 17 3) (.one 2 false [] (ia 18 2 16 17) (.one 3 false [] (xo 19 (.load true 2 (.t 18))) (.one 4 false [] (mv 20 0) (.one 5 false [] (mv 21 3) (.one 6 false [] (bc 22 .sub 21 (V.int 1)) (.one 7 false [] (ia 23 2 20 22) (.one 8 false [] (xo 24 (.load true 2 (.t 23))) (.one 9 false [] (xo 25 (.eqagg false [0,0] (.t 19) (.t 24))) (.done))))))))))
theorem QE:okR (XC) XI [] XA = true:=by kernel_rfl
theorem QC:Ww (ris (XC) XI []) XA = Jb:=by kernel_rfl
def XB:List AO:=[mv 35 4,mv 36 5,ia 37 2 35 36,xo 38 (.load true 2 (.t 37)),mv 39 4,mv 40 5,bc 41 .sub 40 (V.int 1),ia 42 2 39 41,xo 43 (.load true 2 (.t 42)),xo 44 (.eqagg true [0,0] (.t 38) (.t 43))]
def XH:List (List Nat):=[[],[],[0,1],[2],[],[],[5],[4,6],[7],[3,8]]
def Xz:OT:=.one 0 (.one 1 (.one 2 (.one 3 (.one 4 (.one 5 (.one 6 (.one 7 (.one 8 (.one 9 (.done))))))))))
def Ja:OP:=.one 0 false [] (mv 35 4) (.one 1 false [] (mv 36 5) (.one 2 false [] (ia 37 2 35 36) (.one 3 false [] (xo 38 (.load true 2 (.t 37))) (.one 4 false [] (mv 39 4) (.one 5 false [] (mv 40 5) (.one 6 false [] (bc 41 .sub 40 (V.int 1)) (.one 7 false [] (ia 42 2 39 41) (.one 8 false [] (xo 43 (.load true 2 (.t 42))) (.one 9 false [] (xo 44 (.eqagg true [0,0] (.t 38) (.t 43))) (.done))))))))))
theorem QD:okR (XB) XH [] Xz = true:=by kernel_rfl
theorem QB:Ww (ris (XB) XH []) Xz = Ja:=by kernel_rfl def c_slices_Compact___api_Use_api_Use:AC:=Qo [0] (.reg [xo 2 (.mknil 2)]) (Qo [0] (Qo [0,8] (.reg [mv 6 0,ln 7 6,bc 8 .lss 7 (V.int 2)]) (.cond (.t 8) (Qo [2] (.reg [mv 9 0,mv 2 9]) (.ret)) (.skip))) (Qo [0] (Qo [0,3] (.reg [mc 3 (V.int 1)]) (.block 0 (X1 [0,3] (Qo [0,3] (Qo [0,3,13] (.reg [mv 10 3,mv 11 0,ln 12 11,bn 13 .lss 10 12]) (.cond (.t 13) (.skip) (.exit 0))) (Qo [0,3] (.block 1 (Qo [0,3,25] (ach [] XA (Jb) (XC) XI) (.cond (.t 25) (Qo [0,3,4] (.reg [mv 26 0,mv 27 3,xo 28 (.slsl 2 (.t 26) (some (.t 27)) none),mv 4 28]) (Qo [0,3] (Qo [0,3,4,5] (.reg [mc 5 (V.int 1)]) (.block 2 (X1 [0,3,4,5] (Qo [0,3,4,5] (Qo [0,3,4,5,32] (.reg [mv 29 5,mv 30 4,ln 31 30,bn 32 .lss 29 31]) (.cond (.t 32) (.skip) (.exit 2))) (Qo [0,3,4,5] (.block 3 (Qo [0,3,4,5,44] (ach [] Xz (Ja) (XB) XH) (.cond (.t 44) (Qo [0,3,4,5] (.reg [mv 45 0,mv 46 3,mv 47 4,mv 48 5,ia 49 2 47 48,xo 50 (.load true 2 (.t 49)),ia 51 2 45 46,xs 2 51 50]) (.reg [mv 52 3,bc 53 .add 52 (V.int 1),mv 3 53])) (.skip)))) (.reg [mv 33 5,bc 34 .add 33 (V.int 1),mv 5 34])))))) (Qo [0,3] (.reg [mv 54 0,mv 55 3,xo 56 (.slsl 2 (.t 54) (some (.t 55)) none),⟨none,.clrS 2 true [(.int .i64 0),(.int .i64 0)] (.t 56),none⟩]) (Qo [2] (.reg [mv 57 0,mv 58 3,xo 59 (.slsl 2 (.t 57) none (some (.t 58))),mv 2 59]) (.ret))))) (.skip)))) (.reg [mv 14 3,bc 15 .add 14 (V.int 1),mv 3 15])))))) (Qo [2] (.reg [mv 60 0,mv 2 60]) (.ret)))) def r_slices_Compact___api_Use_api_Use:List X0:=[.tmp 2]
def XZ (Γ:Env) (f:Nat):Prop:=∀ (xs:List PU) (hx:xs.length < 2 ^ 34),EvZ Γ f [] 2 (xs.map usV) ((aap (fun x y:PU ↦ x.1 == y.1 && x.2 == y.2) xs).length) ((aap (fun x y:PU ↦ x.1 == y.1 && x.2 == y.2) xs).map usV++List.replicate (xs.length - (aap (fun x y:PU ↦ x.1 == y.1 && x.2 == y.2) xs).length) (V.agg [V.int 0,V.int 0]))
theorem KP {Γ:Env} {f:Nat} (h:Has Γ.P f 61 c_slices_Compact___api_Use_api_Use r_slices_Compact___api_Use_api_Use) :XZ Γ f:=by
  intro xs hx
  refine aiJ h (by simp) fun C hC hm=>?_
  subst hC
  unfold c_slices_Compact___api_Use_api_Use
  have hlen:(xs.map usV).length = xs.length:=List.length_map _
  generalize heq:(fun x y:PU=>x.1 == y.1 && x.2 == y.2) = eq
  have heq2:∀ x y:PU,(x.1 == y.1 && x.2 == y.2) = eq x y:=fun x y=>by rw [← heq]
  by_cases h2:xs.length < 2
  · have e1:decide (((xs.map usV).length:Int) < 2) = true:=decide_eq_true (by rw [hlen];omega)
    have hg:aap eq xs = xs:=by
      match xs,h2 with
      | [],_=>rfl
      | [x],_=>rfl
    rw [hg,Nat.sub_self]
    repeat' (first|refine Qb fun K' hK=>?_|refine Qe fun K' hK=>?_|refine Ql 10 (fun _=>true) rfl (QE) (QC) fun K' hK=>?_|refine Qm 10 (fun _=>true) rfl (QE) (QC) fun K' hK=>?_|refine Ql 10 (fun _=>true) rfl (QD) (QB) fun K' hK=>?_|refine Qm 10 (fun _=>true) rfl (QD) (QB) fun K' hK=>?_|refine Qc ?_|refine Qd ?_|refine Qa ?_|((first|refine Qg ⟨_,rfl,fun hc=>?_,fun hc=>?_⟩|refine Qs (fun hc=>?_) (fun hc=>?_)|refine Qt (fun hc=>?_) (fun hc=>?_))<;>first|(cases hc;done)|((try simp only [znz] at hc);first|exact znf|skip))|refine Qi ?_|refine Qf ?_|simp (maxSteps:=1000000) only [go_sem,e1,Jb,Ja]|(refine hK _ ?_;clear hK K')|apply And.intro|exact zlo|omega|exact zms)
    all_goals first|(refine amh _ rfl rfl rfl ?_ ?_<;>first|rfl|(simp;done))
  · have e1:decide (((xs.map usV).length:Int) < 2) = false:=decide_eq_false (by rw [hlen];omega)
    repeat' (first|refine Qb fun K' hK=>?_|refine Qe fun K' hK=>?_|refine Ql 10 (fun _=>true) rfl (QE) (QC) fun K' hK=>?_|refine Qm 10 (fun _=>true) rfl (QE) (QC) fun K' hK=>?_|refine Ql 10 (fun _=>true) rfl (QD) (QB) fun K' hK=>?_|refine Qm 10 (fun _=>true) rfl (QD) (QB) fun K' hK=>?_|refine Qc ?_|refine Qd ?_|refine Qa ?_|((first|refine Qg ⟨_,rfl,fun hc=>?_,fun hc=>?_⟩|refine Qs (fun hc=>?_) (fun hc=>?_)|refine Qt (fun hc=>?_) (fun hc=>?_))<;>first|(cases hc;done)|((try simp only [znz] at hc);first|exact znf|skip))|refine Qi ?_|refine Qf ?_|simp (maxSteps:=1000000) only [go_sem,e1,Jb,Ja]|(refine hK _ ?_;clear hK K')|apply And.intro|exact zlo|omega|exact zms)
    refine Xf (ι:=Nat) (fun k=>1≤k∧k≤xs.length∧∃ p,xs[k - 1]? = some p∧aap eq xs = xs.take k++vk eq p (xs.drop k)) (fun k=>[(3,V.int k)]) (fun k=>xs.length - k) 1 (by omega) ⟨by omega,by omega,?_⟩ (by repeat' first|exact We|refine Vk (by omega) (by simp only [Ob.lt,ltL,V.lt,and_self,and_true];try omega) ?_) (fun i hi=>by simp only [ovT,J5,Nat.reduceEqDiff,reduceIte];(repeat' first|exact Vj|refine Wd ?_ ?_|simp only [V.lt,ltL,and_self,and_true]|omega)) (by simp only [Nat.reduceAdd,ovT,J5,Nat.reduceEqDiff,reduceIte,JA,JW,qV,u32,u33,u34,u35,u36,u37,u38,u39,and_self,and_true,true_and];first|done|rfl) fun k hk K' hL=>?_
    · match xs,h2 with
      | x :: r,_=>exact ⟨x,rfl,rfl⟩
      | [],h2=>exact absurd (by simp) h2
    obtain ⟨hk1,hk2,p,hp,hinv⟩:=hk
    simp only [ovT,J5,Nat.reduceEqDiff,reduceIte]
    by_cases hke:k = xs.length
    · have e2:decide ((k:Int) < ((xs.map usV).length:Int)) = false:=decide_eq_false (by rw [hlen];omega)
      have hg:aap eq xs = xs:=by rw [hinv,hke,List.take_length,List.drop_length];simp [vk]
      rw [hg,Nat.sub_self]
      repeat' (first|refine Qb fun K' hK=>?_|refine Qe fun K' hK=>?_|refine Ql 10 (fun _=>true) rfl (QE) (QC) fun K' hK=>?_|refine Qm 10 (fun _=>true) rfl (QE) (QC) fun K' hK=>?_|refine Ql 10 (fun _=>true) rfl (QD) (QB) fun K' hK=>?_|refine Qm 10 (fun _=>true) rfl (QD) (QB) fun K' hK=>?_|refine Qc ?_|refine Qd ?_|refine Qa ?_|((first|refine Qg ⟨_,rfl,fun hc=>?_,fun hc=>?_⟩|refine Qs (fun hc=>?_) (fun hc=>?_)|refine Qt (fun hc=>?_) (fun hc=>?_))<;>first|(cases hc;done)|((try simp only [znz] at hc);first|exact znf|skip))|refine Qi ?_|refine Qf ?_|simp (maxSteps:=1000000) only [go_sem,e2,Jb,Ja]|(refine hK _ ?_;clear hK K')|apply And.intro|exact zlo|omega|exact zms)
      all_goals first|(refine amh _ rfl rfl rfl ?_ ?_<;>first|rfl|(simp;done))
    · have e2:decide ((k:Int) < ((xs.map usV).length:Int)) = true:=decide_eq_true (by rw [hlen];omega)
      obtain ⟨y,hy⟩:∃ y,xs[k]? = some y:=⟨_,List.getElem?_eq_getElem (by omega)⟩
      have hdy:xs.drop k = y :: xs.drop (k + 1):=by
        obtain ⟨h1,h2⟩:=List.getElem?_eq_some_iff.1 hy
        rw [List.drop_eq_getElem_cons h1,h2]
      rw [hdy,vk] at hinv
      have hw:=Jq (k:=k) (by omega)
      have hwm:IntKind.i64.wrap ((k:Int) - 1) = ((k - 1:Nat):Int):=by rw [WW (by omega) (by omega)];omega
      have vy:(xs.map usV)[k]? = some (usV y):=by rw [List.getElem?_map,hy];rfl
      have vp:(xs.map usV)[k - 1]? = some (usV p):=by rw [List.getElem?_map,hp];rfl
      simp only [usV] at vy vp
      have hq:=heq2 y p
      have r1:((k:Int) < ((xs.map usV).length:Int)) = True:=eq_true (by rw [hlen];omega)
      have r2:((k - 1:Nat):Int) < ((xs.map usV).length:Int):=by rw [hlen];omega
      rcases hb:eq y p with _|_
      · rw [hb] at hq
        simp only [hb,Bool.false_eq_true,if_false] at hinv
        repeat' (first|refine Qb fun K' hK=>?_|refine Qe fun K' hK=>?_|refine Ql 10 (fun _=>true) rfl (QE) (QC) fun K' hK=>?_|refine Qm 10 (fun _=>true) rfl (QE) (QC) fun K' hK=>?_|refine Ql 10 (fun _=>true) rfl (QD) (QB) fun K' hK=>?_|refine Qm 10 (fun _=>true) rfl (QD) (QB) fun K' hK=>?_|refine Qc ?_|refine Qd ?_|refine Qa ?_|((first|refine Qg ⟨_,rfl,fun hc=>?_,fun hc=>?_⟩|refine Qs (fun hc=>?_) (fun hc=>?_)|refine Qt (fun hc=>?_) (fun hc=>?_))<;>first|(cases hc;done)|((try simp only [znz] at hc);first|exact znf|skip))|refine Qi ?_|refine Qf ?_|simp (maxSteps:=1000000) only [go_sem,e2,hw,hwm,Int.toNat_natCast,vy,vp,hq,Jb,Ja]|(refine hK _ ?_;clear hK K')|apply And.intro|exact zlo|omega|exact zms)
        all_goals first
          | exact hL _ (k + 1) (by simp only [Nat.reduceAdd,ovT,J5,Nat.reduceEqDiff,reduceIte,JA,JW,qV,u32,u33,u34,u35,u36,u37,u38,u39,and_self,and_true,true_and]) ⟨by omega,by omega,y,by rw [Nat.add_sub_cancel];exact hy,by rw [hinv,List.take_add_one,hy];simp⟩ (by omega) (fun a ha=>by simp only [u32,u33,u34,u35,u36,u37,u38,u39];repeat rw [if_neg (by omega)])
          | exact r2
      · rw [hb] at hq
        simp only [hb,if_true] at hinv
        repeat' (first|refine Qb fun K' hK=>?_|refine Qe fun K' hK=>?_|refine Ql 10 (fun _=>true) rfl (QE) (QC) fun K' hK=>?_|refine Qm 10 (fun _=>true) rfl (QE) (QC) fun K' hK=>?_|refine Ql 10 (fun _=>true) rfl (QD) (QB) fun K' hK=>?_|refine Qm 10 (fun _=>true) rfl (QD) (QB) fun K' hK=>?_|refine Qc ?_|refine Qd ?_|refine Qa ?_|((first|refine Qg ⟨_,rfl,fun hc=>?_,fun hc=>?_⟩|refine Qs (fun hc=>?_) (fun hc=>?_)|refine Qt (fun hc=>?_) (fun hc=>?_))<;>first|(cases hc;done)|((try simp only [znz] at hc);first|exact znf|skip))|refine Qi ?_|refine Qf ?_|simp (maxSteps:=1000000) only [go_sem,e2,hw,hwm,Int.toNat_natCast,vy,vp,hq,Jb,Ja]|(refine hK _ ?_;clear hK K')|apply And.intro|exact zlo|omega|exact zms)
        all_goals first
          | exact r2
          | skip
        refine JR (ι:=List PU×Nat×Nat) (fun q=>q.1.length = xs.length∧1≤q.2.2∧k + q.2.2≤xs.length∧k≤q.2.1∧q.2.1≤k + q.2.2 - 1∧q.1.drop (k + q.2.2 - 1) = xs.drop (k + q.2.2 - 1)∧∃ z,xs[k + q.2.2 - 1]? = some z∧aap eq xs = q.1.take q.2.1++vk eq z (xs.drop (k + q.2.2)))
          (fun q=>Xy [(0,.hd 0 0 (xs.map usV).length),(3,V.int q.2.1),(4,.hd 0 k (xs.length - k)),(5,V.int q.2.2)] [(0,.buf true 2 (q.1.map usV))] 1) (fun q=>xs.length - q.2.2) (xs,k,1)
          ⟨rfl,by simp only;omega,by simp only;omega,by simp only;omega,by simp only;omega,rfl,y,by simp only [Nat.add_sub_cancel];exact hy,by rw [hinv]⟩ (QO []) (JE [] (by simp only [go_sem,and_true,true_and,implies_true,Option.some.injEq,exists_eq_left',Qh,Qj];first|done|(simp only [List.length_map];(repeat' (first|rfl|apply And.intro|omega|exact fun h=>h|exact Exists.intro _ rfl)))|(repeat' (first|rfl|apply And.intro|omega|exact fun h=>h|exact Exists.intro _ rfl))) (by simp only [go_sem,and_true,true_and,implies_true,Option.some.injEq,exists_eq_left',Qh,Qj];(repeat' (first|rfl|apply And.intro|omega|exact fun h=>h|exact Exists.intro _ rfl))) (by simp) (by simp) (by omega)) fun q hq K2 hL2=>?_
        obtain ⟨B,w,j⟩:=q
        obtain ⟨hB,hj1,hj2,hw1,hw2,hdr,z,hz,hinv2⟩:=hq
        dsimp only at hB hj1 hj2 hw1 hw2 hdr hz hinv2
        have hBl:(B.map usV).length = xs.length:=by rw [List.length_map,hB]
        have hwj:=Jq (k:=j) (by omega)
        have hww:=Jq (k:=w) (by omega)
        by_cases hje:k + j = xs.length
        · have e3:decide ((j:Int) < ((xs.length - k:Nat):Int)) = false:=decide_eq_false (by omega)
          have hg:aap eq xs = B.take w:=by rw [hinv2,hje,List.drop_length];simp [vk]
          have hgl:(aap eq xs).length = w:=by rw [hg,List.length_take,hB];omega
          have r3:((w:Int)≤((xs.map usV).length:Int)) = True:=eq_true (by rw [hlen];omega)
          rw [hgl,hg]
          repeat' (first|refine Qb fun K' hK=>?_|refine Qe fun K' hK=>?_|refine Ql 10 (fun _=>true) rfl (QE) (QC) fun K' hK=>?_|refine Qm 10 (fun _=>true) rfl (QE) (QC) fun K' hK=>?_|refine Ql 10 (fun _=>true) rfl (QD) (QB) fun K' hK=>?_|refine Qm 10 (fun _=>true) rfl (QD) (QB) fun K' hK=>?_|refine Qc ?_|refine Qd ?_|refine Qa ?_|((first|refine Qg ⟨_,rfl,fun hc=>?_,fun hc=>?_⟩|refine Qs (fun hc=>?_) (fun hc=>?_)|refine Qt (fun hc=>?_) (fun hc=>?_))<;>first|(cases hc;done)|((try simp only [znz] at hc);first|exact znf|skip))|refine Qi ?_|refine Qf ?_|simp (maxSteps:=1000000) only [go_sem,Xy,e3,Int.toNat_natCast,Jb,Ja]|(refine hK _ ?_;clear hK K')|apply And.intro|exact zlo|omega|exact zms)
          all_goals first
            | (rw [hlen];omega)
            | (refine amh _ rfl rfl rfl ?_ ?_<;>first|rfl|(rw [List.drop_eq_nil_of_le (by rw [hBl,hlen];omega),List.append_nil,List.map_take,hlen];done)|(simp;done))
        · have e3:decide ((j:Int) < ((xs.length - k:Nat):Int)) = true:=decide_eq_true (by omega)
          obtain ⟨u,hu⟩:∃ u,xs[k + j]? = some u:=⟨_,List.getElem?_eq_getElem (by omega)⟩
          have hdu:xs.drop (k + j) = u :: xs.drop (k + j + 1):=by
            obtain ⟨h1,h2⟩:=List.getElem?_eq_some_iff.1 hu
            rw [List.drop_eq_getElem_cons h1,h2]
          rw [hdu,vk] at hinv2
          have bz:B[k + (j - 1)]? = some z:=by
            have:(B.drop (k + j - 1))[0]? = (xs.drop (k + j - 1))[0]?:=by rw [hdr]
            rw [List.getElem?_drop,List.getElem?_drop,Nat.add_zero,hz] at this
            rw [← this];congr 1;omega
          have bu:B[k + j]? = some u:=by
            have:(B.drop (k + j - 1))[1]? = (xs.drop (k + j - 1))[1]?:=by rw [hdr]
            rw [List.getElem?_drop,List.getElem?_drop,show k + j - 1 + 1 = k + j by omega,hu] at this
            exact this
          have vz:(B.map usV)[k + (j - 1)]? = some (usV z):=by rw [List.getElem?_map,bz];rfl
          have vu:(B.map usV)[k + j]? = some (usV u):=by rw [List.getElem?_map,bu];rfl
          have bw:∃ t,B[w]? = some t:=⟨_,List.getElem?_eq_getElem (by omega)⟩
          obtain ⟨t,bw⟩:=bw
          have vt:(B.map usV)[w]? = some (usV t):=by rw [List.getElem?_map,bw];rfl
          have hset:(B.map usV).set w (usV u) = (B.set w u).map usV:=List.map_set.symm
          have hwm2:IntKind.i64.wrap ((j:Int) - 1) = ((j - 1:Nat):Int):=by rw [WW (by omega) (by omega)];omega
          simp only [usV] at vz vu vt hset
          have hq:=heq2 u z
          have r4:(((w:Int)) < ((xs.map usV).length:Int)) = True:=eq_true (by rw [hlen];omega)
          have r5:((j:Int) < ((xs.length - k:Nat):Int)) = True:=eq_true (by omega)
          have r6:((((j - 1:Nat):Int)) < ((xs.length - k:Nat):Int)) = True:=eq_true (by omega)
          rcases hb2:eq u z with _|_
          · rw [hb2] at hq
            simp only [hb2,Bool.false_eq_true,if_false] at hinv2
            repeat' (first|refine Qb fun K' hK=>?_|refine Qe fun K' hK=>?_|refine Ql 10 (fun _=>true) rfl (QE) (QC) fun K' hK=>?_|refine Qm 10 (fun _=>true) rfl (QE) (QC) fun K' hK=>?_|refine Ql 10 (fun _=>true) rfl (QD) (QB) fun K' hK=>?_|refine Qm 10 (fun _=>true) rfl (QD) (QB) fun K' hK=>?_|refine Qc ?_|refine Qd ?_|refine Qa ?_|((first|refine Qg ⟨_,rfl,fun hc=>?_,fun hc=>?_⟩|refine Qs (fun hc=>?_) (fun hc=>?_)|refine Qt (fun hc=>?_) (fun hc=>?_))<;>first|(cases hc;done)|((try simp only [znz] at hc);first|exact znf|skip))|refine Qi ?_|refine Qf ?_|simp (maxSteps:=1000000) only [go_sem,Xy,e3,hwj,hww,hwm2,Int.toNat_natCast,vz,vu,vt,hset,hq,r4,r5,r6,Jb,Ja]|(refine hK _ ?_;clear hK K')|apply And.intro|exact zlo|omega|exact zms)
            all_goals first
              | exact hL2 _ (B.set w u,w + 1,j + 1) (QO []) ⟨by simp only [List.length_set];exact hB,by simp only;omega,by simp only;omega,by simp only;omega,by simp only;omega,by
                  simp only
                  rw [List.drop_set_of_lt (by omega),show k + (j + 1) - 1 = (k + j - 1) + 1 by omega,← List.drop_drop,hdr,List.drop_drop],u,by simp only;rw [show k + (j + 1) - 1 = k + j by omega];exact hu,by
                  simp only
                  rw [hinv2,show k + (j + 1) = k + j + 1 by omega,List.take_add_one,List.getElem?_set_self (by omega),List.take_set_of_le (Nat.le_refl _)];simp⟩ (by simp only;omega) (JE [] (by simp only [go_sem,and_true,true_and,implies_true,Option.some.injEq,exists_eq_left',Qh,Qj];(repeat' (first|rfl|apply And.intro|omega|exact fun h=>h|exact Exists.intro _ rfl))) (by simp only [go_sem,and_true,true_and,implies_true,Option.some.injEq,exists_eq_left',Qh,Qj];(repeat' (first|rfl|apply And.intro|omega|exact fun h=>h|exact Exists.intro _ rfl))) (by simp) (by simp) (by omega))
              | (rw [hlen];omega)
          · rw [hb2] at hq
            simp only [hb2,if_true] at hinv2
            repeat' (first|refine Qb fun K' hK=>?_|refine Qe fun K' hK=>?_|refine Ql 10 (fun _=>true) rfl (QE) (QC) fun K' hK=>?_|refine Qm 10 (fun _=>true) rfl (QE) (QC) fun K' hK=>?_|refine Ql 10 (fun _=>true) rfl (QD) (QB) fun K' hK=>?_|refine Qm 10 (fun _=>true) rfl (QD) (QB) fun K' hK=>?_|refine Qc ?_|refine Qd ?_|refine Qa ?_|((first|refine Qg ⟨_,rfl,fun hc=>?_,fun hc=>?_⟩|refine Qs (fun hc=>?_) (fun hc=>?_)|refine Qt (fun hc=>?_) (fun hc=>?_))<;>first|(cases hc;done)|((try simp only [znz] at hc);first|exact znf|skip))|refine Qi ?_|refine Qf ?_|simp (maxSteps:=1000000) only [go_sem,Xy,e3,hwj,hww,hwm2,Int.toNat_natCast,vz,vu,vt,hset,hq,r4,r5,r6,Jb,Ja]|(refine hK _ ?_;clear hK K')|apply And.intro|exact zlo|omega|exact zms)
            all_goals first
              | exact hL2 _ (B,w,j + 1) (QO []) ⟨hB,by simp only;omega,by simp only;omega,by simp only;omega,by simp only;omega,by
                  simp only
                  rw [show k + (j + 1) - 1 = (k + j - 1) + 1 by omega,← List.drop_drop,hdr,List.drop_drop],u,by simp only;rw [show k + (j + 1) - 1 = k + j by omega];exact hu,by simp only;rw [hinv2,show k + (j + 1) = k + j + 1 by omega]⟩ (by simp only;omega) (JE [] (by simp only [go_sem,and_true,true_and,implies_true,Option.some.injEq,exists_eq_left',Qh,Qj];(repeat' (first|rfl|apply And.intro|omega|exact fun h=>h|exact Exists.intro _ rfl))) (by simp only [go_sem,and_true,true_and,implies_true,Option.some.injEq,exists_eq_left',Qh,Qj];(repeat' (first|rfl|apply And.intro|omega|exact fun h=>h|exact Exists.intro _ rfl))) (by simp) (by simp) (by omega))
end Av
end
section
set_option linter.unusedSimpArgs false
set_option linter.unusedVariables false
set_option maxRecDepth 10000
set_option maxHeartbeats 4000000
namespace Av
open Go
attribute [local irreducible] AWp WY Vp Vq awS awC V1 awQ Uh Q9 YQ VZ awR YT awB okR Ww ris
def Xc:List AO:=[mv 18 9,mv 19 1,bn 20 .gtr 18 19,mv 21 20,mg 22 3 21 true,mg 23 0 21 true,mg 24 9 21 true,xg 25 (.iaddr 2 (.t 23) (.t 24)) 21 true,xg 26 (.load true 2 (.t 25)) 21 true,mg 27 0 21 true,mg 28 9 21 true,xg 29 (.bin .sub (.t 28) (.c (V.int 1))) 21 true,xg 30 (.iaddr 2 (.t 27) (.t 29)) 21 true,xg 31 (.load true 2 (.t 30)) 21 true,xg 32 (.callv (.t 22) [(.t 26),(.t 31)]) 21 true,xg 33 (.bin .lss (.t 32) (.c (V.int 0))) 21 true,xo 34 (.pick (.t 21) (.t 33) (.c (V.bool false)))]
def Xh:List (List Nat):=[[],[],[0,1],[2],[3],[3],[3],[5,6,3],[7,3],[3],[3],[10,3],[9,11,3],[12,3],[4,8,13,3,3],[14,3],[3,15]]
def Xa:OT:=.one 0 (.one 1 (.one 2 (.one 3 (.one 4 (.one 5 (.one 6 (.one 7 (.one 8 (.one 9 (.one 10 (.one 11 (.one 12 (.one 13 (.or 14 (.one 15 (.one 16 (.done))) (.done)))))))))))))))
def Q5:OP:=.one 0 false [] (mv 18 9) (.one 1 false [] (mv 19 1) (.one 2 false [] (bn 20 .gtr 18 19) (.one 3 false [] (mv 21 20) (.one 4 false [] (mg 22 3 21 true) (.one 5 false [] (mg 23 0 21 true) (.one 6 false [] (mg 24 9 21 true) (.one 7 false [] (xg 25 (.iaddr 2 (.t 23) (.t 24)) 21 true) (.one 8 false [] (xg 26 (.load true 2 (.t 25)) 21 true) (.one 9 false [] (mg 27 0 21 true) (.one 10 false [] (mg 28 9 21 true) (.one 11 false [] (xg 29 (.bin .sub (.t 28) (.c (V.int 1))) 21 true) (.one 12 false [] (xg 30 (.iaddr 2 (.t 27) (.t 29)) 21 true) (.one 13 false [] (xg 31 (.load true 2 (.t 30)) 21 true) (.or 14 true [] (xg 32 (.callv (.t 22) [(.t 26),(.t 31)]) 21 true) (.one 15 false [14] (xg 33 (.bin .lss (.t 32) (.c (V.int 0))) 21 true) (.one 16 false [14] (xo 34 (.pick (.t 21) (.t 33) (.c (V.bool false)))) (.done))) (.done)))))))))))))))
theorem QA:okR (Xc) Xh [14] Xa = true:=by kernel_rfl
theorem Qy:Ww (ris (Xc) Xh [14]) Xa = Q5:=by kernel_rfl
def Xb:List AO:=[mv 37 0,mv 38 9,mv 39 0,mv 40 9,bc 41 .sub 40 (V.int 1),mv 42 0,mv 43 9,bc 44 .sub 43 (V.int 1),ia 45 2 42 44,xo 46 (.load true 2 (.t 45)),mv 47 0,mv 48 9,ia 49 2 47 48,xo 50 (.load true 2 (.t 49)),ia 51 2 37 38,xs 2 51 46,ia 52 2 39 41,xs 2 52 50]
def Xg:List (List Nat):=[[],[],[],[],[3],[],[],[6],[5,7],[8],[],[],[10,11],[12],[0,1,0,1,5,6,7,8,9,13],[14,9,0,1,5,6,7,8,9,13],[2,4,0,1,2,3,4,5,6,7,8,9,10,11,12,13,14,15],[16,13,15,0,1,2,3,4,5,6,7,8,9,10,11,12,13,14,15]]
def Y9:OT:=.one 0 (.one 1 (.one 2 (.one 3 (.one 4 (.one 5 (.one 6 (.one 7 (.one 10 (.one 11 (.or 8 (.or 9 (.or 12 (.one 13 (.one 14 (.one 15 (.one 16 (.one 17 (.done)))))) (.done)) (.or 12 (.or 9 (.one 13 (.one 14 (.one 15 (.one 16 (.one 17 (.done)))))) (.or 13 (.one 9 (.one 14 (.one 15 (.one 16 (.one 17 (.done)))))) (.done))) (.done))) (.or 12 (.or 8 (.or 9 (.one 13 (.one 14 (.one 15 (.one 16 (.one 17 (.done)))))) (.or 13 (.one 9 (.one 14 (.one 15 (.one 16 (.one 17 (.done)))))) (.done))) (.or 13 (.one 8 (.one 9 (.one 14 (.one 15 (.one 16 (.one 17 (.done))))))) (.done))) (.done))))))))))))
def Q4:OP:=.one 0 false [] (mv 37 0) (.one 1 false [] (mv 38 9) (.one 2 false [] (mv 39 0) (.one 3 false [] (mv 40 9) (.one 4 false [] (bc 41 .sub 40 (V.int 1)) (.one 5 false [] (mv 42 0) (.one 6 false [] (mv 43 9) (.one 7 false [] (bc 44 .sub 43 (V.int 1)) (.one 10 false [] (mv 47 0) (.one 11 false [] (mv 48 9) (.or 8 true [] (ia 45 2 42 44) (.or 9 true [] (xo 46 (.load true 2 (.t 45))) (.or 12 true [] (ia 49 2 47 48) (.one 13 true [] (xo 50 (.load true 2 (.t 49))) (.one 14 true [] (ia 51 2 37 38) (.one 15 true [] (xs 2 51 46) (.one 16 true [] (ia 52 2 39 41) (.one 17 true [] (xs 2 52 50) (.done)))))) (.done)) (.or 12 true [] (ia 49 2 47 48) (.or 9 true [] (xo 46 (.load true 2 (.t 45))) (.one 13 true [] (xo 50 (.load true 2 (.t 49))) (.one 14 true [] (ia 51 2 37 38) (.one 15 true [] (xs 2 51 46) (.one 16 true [] (ia 52 2 39 41) (.one 17 true [] (xs 2 52 50) (.done)))))) (.or 13 true [] (xo 50 (.load true 2 (.t 49))) (.one 9 true [] (xo 46 (.load true 2 (.t 45))) (.one 14 true [] (ia 51 2 37 38) (.one 15 true [] (xs 2 51 46) (.one 16 true [] (ia 52 2 39 41) (.one 17 true [] (xs 2 52 50) (.done)))))) (.done))) (.done))) (.or 12 true [] (ia 49 2 47 48) (.or 8 true [] (ia 45 2 42 44) (.or 9 true [] (xo 46 (.load true 2 (.t 45))) (.one 13 true [] (xo 50 (.load true 2 (.t 49))) (.one 14 true [] (ia 51 2 37 38) (.one 15 true [] (xs 2 51 46) (.one 16 true [] (ia 52 2 39 41) (.one 17 true [] (xs 2 52 50) (.done)))))) (.or 13 true [] (xo 50 (.load true 2 (.t 49))) (.one 9 true [] (xo 46 (.load true 2 (.t 45))) (.one 14 true [] (ia 51 2 37 38) (.one 15 true [] (xs 2 51 46) (.one 16 true [] (ia 52 2 39 41) (.one 17 true [] (xs 2 52 50) (.done)))))) (.done))) (.or 13 true [] (xo 50 (.load true 2 (.t 49))) (.one 8 true [] (ia 45 2 42 44) (.one 9 true [] (xo 46 (.load true 2 (.t 45))) (.one 14 true [] (ia 51 2 37 38) (.one 15 true [] (xs 2 51 46) (.one 16 true [] (ia 52 2 39 41) (.one 17 true [] (xs 2 52 50) (.done))))))) (.done))) (.done))))))))))))
theorem Qz:okR (Xb) Xg [8,9,12,13,14,16] Y9 = true:=by kernel_rfl
theorem Qx:Ww (ris (Xb) Xg [8,9,12,13,14,16]) Y9 = Q4:=by kernel_rfl def c_slices_insertionSortCmpFunc_api_Use:AC:=Qo [0,1,2,3,8] (.reg [mv 10 1,bc 11 .add 10 (V.int 1),mv 8 11]) (.block 0 (X1 [0,1,2,3,8] (Qo [0,1,2,3,8] (Qo [0,1,2,3,8,14] (.reg [mv 12 8,mv 13 2,bn 14 .lss 12 13]) (.cond (.t 14) (.skip) (.exit 0))) (Qo [0,1,2,3,8] (.block 1 (Qo [0,1,2,3,8,9] (.reg [mv 17 8,mv 9 17]) (.block 2 (X1 [0,1,2,3,8,9] (Qo [0,1,2,3,8,9] (Qo [0,1,2,3,8,9,34] (ach [14] Xa (Q5) (Xc) Xh) (.cond (.t 34) (.skip) (.exit 2))) (Qo [0,1,2,3,8,9] (.block 3 (ach [8,9,12,13,14,16] Y9 (Q4) (Xb) Xg)) (.reg [mv 35 9,bc 36 .sub 35 (V.int 1),mv 9 36]))))))) (.reg [mv 15 8,bc 16 .add 15 (V.int 1),mv 8 16]))))) def r_slices_insertionSortCmpFunc_api_Use:List X0:=[]
def Xq (Γ:Env) (f:Nat):Prop:=∀ (xs:List PU) (a b:Nat) (g:Nat) (c:PU→PU→Int) (hcmp:∀ x∈xs,∀ y∈xs,EvN Γ g [usV x,usV y] (V.int (c x y))) (hab:a≤b) (hb:b≤xs.length) (hx:xs.length < 2 ^ 34),EvL Γ f [V.int a,V.int b,.clo g []] 2 (xs.map usV) (.tup []) ((if a = b then xs.map usV else (wu (fun x y=>decide (c x y < 0)) xs a b).map usV))
theorem U7 {Γ:Env} {f:Nat} (h:Has Γ.P f 53 c_slices_insertionSortCmpFunc_api_Use r_slices_insertionSortCmpFunc_api_Use) :Xq Γ f:=by
  intro xs a b g c hcmp hab hb hx
  refine jd h (by simp) (by simp only [V.closed,Qn,V.noSl,Jx,and_self,and_true,true_and]) fun C hC hm=>?_
  subst hC
  unfold c_slices_insertionSortCmpFunc_api_Use
  have hwa:=Jq (k:=a) (by omega)
  by_cases he:a = b
  · subst he
    rw [if_pos rfl]
    have e1:decide (((a + 1:Nat):Int) < (a:Int)) = false:=by simp;omega
    repeat' (first|refine Qb fun K' hK=>?_|refine Qe fun K' hK=>?_|refine Ql 17 (fun _=>true) rfl (QA) (Qy) fun K' hK=>?_|refine Qm 17 (fun _=>true) rfl (QA) (Qy) fun K' hK=>?_|refine Ql 18 (fun _=>false) rfl (Qz) (Qx) fun K' hK=>?_|refine Qm 18 (fun _=>false) rfl (Qz) (Qx) fun K' hK=>?_|refine Qc ?_|refine Qd ?_|refine Qa ?_|((first|refine Qg ⟨_,rfl,fun hc=>?_,fun hc=>?_⟩|refine Qs (fun hc=>?_) (fun hc=>?_)|refine Qt (fun hc=>?_) (fun hc=>?_))<;>first|(cases hc;done)|((try simp only [znz] at hc);first|exact znf|skip))|refine Qi ?_|refine Qf ?_|simp (maxSteps:=1000000) only [go_sem,hwa,Q5,Q4]|(refine hK _ ?_;clear hK K')|apply And.intro|exact zlo|omega|exact zms)
    refine JR (ι:=Unit) (fun _=>True) (fun _=>Xy [(0,.hd 0 0 (xs.map usV).length),(1,V.int a),(2,V.int a),(3,.clo g []),(8,V.int (a + 1:Nat))] [(0,.buf true 2 (xs.map usV))] 1) (fun _=>0) () trivial (QO []) (JE [] (by simp only [go_sem,and_true,true_and,implies_true,Option.some.injEq,exists_eq_left',Qh,Qj];(repeat' (first|rfl|apply And.intro|omega|exact fun h=>h|exact Exists.intro _ rfl))) (by simp only [go_sem,and_true,true_and,implies_true,Option.some.injEq,exists_eq_left',Qh,Qj];(repeat' (first|rfl|apply And.intro|omega|exact fun h=>h|exact Exists.intro _ rfl))) (by simp) (by simp) (by omega)) fun j hj K'' hL2=>?_
    repeat' (first|refine Qb fun K' hK=>?_|refine Qe fun K' hK=>?_|refine Ql 17 (fun _=>true) rfl (QA) (Qy) fun K' hK=>?_|refine Qm 17 (fun _=>true) rfl (QA) (Qy) fun K' hK=>?_|refine Ql 18 (fun _=>false) rfl (Qz) (Qx) fun K' hK=>?_|refine Qm 18 (fun _=>false) rfl (Qz) (Qx) fun K' hK=>?_|refine Qc ?_|refine Qd ?_|refine Qa ?_|((first|refine Qg ⟨_,rfl,fun hc=>?_,fun hc=>?_⟩|refine Qs (fun hc=>?_) (fun hc=>?_)|refine Qt (fun hc=>?_) (fun hc=>?_))<;>first|(cases hc;done)|((try simp only [znz] at hc);first|exact znf|skip))|refine Qi ?_|refine Qf ?_|simp (maxSteps:=1000000) only [go_sem,Xy,e1,Q5,Q4]|(refine hK _ ?_;clear hK K')|apply And.intro|exact zlo|omega|exact zms)
    all_goals first|(refine xi _ rfl rfl (by simp only [go_sem]) ?_<;>first|rfl|(simp;done))
  · rw [if_neg he]
    repeat' (first|refine Qb fun K' hK=>?_|refine Qe fun K' hK=>?_|refine Ql 17 (fun _=>true) rfl (QA) (Qy) fun K' hK=>?_|refine Qm 17 (fun _=>true) rfl (QA) (Qy) fun K' hK=>?_|refine Ql 18 (fun _=>false) rfl (Qz) (Qx) fun K' hK=>?_|refine Qm 18 (fun _=>false) rfl (Qz) (Qx) fun K' hK=>?_|refine Qc ?_|refine Qd ?_|refine Qa ?_|((first|refine Qg ⟨_,rfl,fun hc=>?_,fun hc=>?_⟩|refine Qs (fun hc=>?_) (fun hc=>?_)|refine Qt (fun hc=>?_) (fun hc=>?_))<;>first|(cases hc;done)|((try simp only [znz] at hc);first|exact znf|skip))|refine Qi ?_|refine Qf ?_|simp (maxSteps:=1000000) only [go_sem,hwa,Q5,Q4]|(refine hK _ ?_;clear hK K')|apply And.intro|exact zlo|omega|exact zms)
    generalize hlt:(fun x y=>decide (c x y < 0)) = lt
    have hlt2:∀ x y,decide (c x y < 0) = lt x y:=by intro x y;rw [← hlt]
    refine JR (ι:=Nat) (fun i=>a + 1≤i∧i≤b) (fun i=>Xy [(0,.hd 0 0 (xs.map usV).length),(1,V.int a),(2,V.int b),(3,.clo g []),(8,V.int i)] [(0,.buf true 2 ((wu lt xs a i).map usV))] 1) (fun i=>b - i) (a + 1) ⟨by omega,by omega⟩ (QO []) (JE [] (by simp only [go_sem,and_true,true_and,implies_true,Option.some.injEq,exists_eq_left',Qh,Qj];(repeat' (first|rfl|apply And.intro|omega|exact fun h=>h|exact Exists.intro _ rfl))) (by rw [ahG (by omega)];simp only [go_sem,and_true,true_and,implies_true,Option.some.injEq,exists_eq_left',Qh,Qj];(repeat' (first|rfl|apply And.intro|omega|exact fun h=>h|exact Exists.intro _ rfl))) (by simp) (by simp) (by omega)) fun i hi K' hL=>?_
    obtain ⟨hi1,hi2⟩:=hi
    by_cases hib:i = b
    · subst hib
      have e1:decide ((i:Int) < (i:Int)) = false:=by simp
      repeat' (first|refine Qb fun K' hK=>?_|refine Qe fun K' hK=>?_|refine Ql 17 (fun _=>true) rfl (QA) (Qy) fun K' hK=>?_|refine Qm 17 (fun _=>true) rfl (QA) (Qy) fun K' hK=>?_|refine Ql 18 (fun _=>false) rfl (Qz) (Qx) fun K' hK=>?_|refine Qm 18 (fun _=>false) rfl (Qz) (Qx) fun K' hK=>?_|refine Qc ?_|refine Qd ?_|refine Qa ?_|((first|refine Qg ⟨_,rfl,fun hc=>?_,fun hc=>?_⟩|refine Qs (fun hc=>?_) (fun hc=>?_)|refine Qt (fun hc=>?_) (fun hc=>?_))<;>first|(cases hc;done)|((try simp only [znz] at hc);first|exact znf|skip))|refine Qi ?_|refine Qf ?_|simp (maxSteps:=1000000) only [go_sem,Xy,e1,Q5,Q4]|(refine hK _ ?_;clear hK K')|apply And.intro|exact zlo|omega|exact zms)
      all_goals first|(refine xi _ rfl rfl (by simp only [go_sem]) ?_<;>first|rfl|(simp;done))
    · have e1:decide ((i:Int) < (b:Int)) = true:=by simp;omega
      have hwi:=Jq (k:=i) (by omega)
      obtain ⟨x,hget⟩:∃ x,xs[i]? = some x:=⟨_,List.getElem?_eq_getElem (by omega)⟩
      have hxm:x∈xs:=List.mem_of_getElem? hget
      have hdx:xs.drop i = x :: xs.drop (i + 1):=by
        rw [List.drop_eq_getElem_cons (by omega)];congr 1
        rw [List.getElem?_eq_getElem (by omega)] at hget;exact Option.some.inj hget
      have hP:(xs.take a).length = a:=by simp;omega
      have hS:(Uq lt ((xs.take i).drop a)).length = i - a:=by rw [yy];simp;omega
      have hSm:∀ y∈Uq lt ((xs.take i).drop a),y∈xs:=fun y hy=>List.mem_of_mem_take (List.mem_of_mem_drop (abM.1 hy))
      have hnext:wu lt xs a (i + 1) = xs.take a++(agD lt (Uq lt ((xs.take i).drop a)) x++xs.drop (i + 1)):=by
        have:(xs.take (i + 1)).drop a = (xs.take i).drop a++[x]:=by
          rw [List.take_add_one,hget,List.drop_append_of_le_length (by simp;omega)];rfl
        rw [wu,this,Uq,List.foldl_append];rfl
      have hnow:wu lt xs a i = U3 (xs.take a) (Uq lt ((xs.take i).drop a)) x (xs.drop (i + 1)) (i - a):=by
        rw [wu,hdx,U3,← hS,List.take_length,List.drop_length];rfl
      rw [hnow]
      generalize Uq lt ((xs.take i).drop a) = S at *
      have hPg:=hP
      generalize xs.take a = P at *
      have hR:(xs.drop (i + 1)).length = xs.length - (i + 1):=List.length_drop
      generalize xs.drop (i + 1) = R at *
      repeat' (first|refine Qb fun K' hK=>?_|refine Qe fun K' hK=>?_|refine Ql 17 (fun _=>true) rfl (QA) (Qy) fun K' hK=>?_|refine Qm 17 (fun _=>true) rfl (QA) (Qy) fun K' hK=>?_|refine Ql 18 (fun _=>false) rfl (Qz) (Qx) fun K' hK=>?_|refine Qm 18 (fun _=>false) rfl (Qz) (Qx) fun K' hK=>?_|refine Qc ?_|refine Qd ?_|refine Qa ?_|((first|refine Qg ⟨_,rfl,fun hc=>?_,fun hc=>?_⟩|refine Qs (fun hc=>?_) (fun hc=>?_)|refine Qt (fun hc=>?_) (fun hc=>?_))<;>first|(cases hc;done)|((try simp only [znz] at hc);first|exact znf|skip))|refine Qi ?_|refine Qf ?_|simp (maxSteps:=1000000) only [go_sem,Xy,e1,Q5,Q4]|(refine hK _ ?_;clear hK K')|apply And.intro|exact zlo|omega|exact zms)
      refine JR (ι:=Nat) (fun q=>q≤i - a∧gK lt S x q = gK lt S x S.length) (fun q=>Xy [(0,.hd 0 0 (xs.map usV).length),(1,V.int a),(2,V.int b),(3,.clo g []),(8,V.int i),(9,V.int (a + q:Nat))] [(0,.buf true 2 ((U3 P S x R q).map usV))] 1) (fun q=>q) (i - a) ⟨by omega,by rw [hS]⟩ (QO []) (JE [] (by rw [show a + (i - a) = i by omega];simp only [go_sem,and_true,true_and,implies_true,Option.some.injEq,exists_eq_left',Qh,Qj];(repeat' (first|rfl|apply And.intro|omega|exact fun h=>h|exact Exists.intro _ rfl))) (by simp only [go_sem,and_true,true_and,implies_true,Option.some.injEq,exists_eq_left',Qh,Qj];(repeat' (first|rfl|apply And.intro|omega|exact fun h=>h|exact Exists.intro _ rfl))) (by simp) (by simp) (by omega)) fun q hq K'' hL2=>?_
      obtain ⟨hq1,hq2⟩:=hq
      have hfin:gK lt S x S.length = q→U3 P S x R q = wu lt xs a (i + 1):=by
        intro h
        rw [hnext,agD,h];simp only [U3,List.append_assoc,List.singleton_append,List.cons_append,List.nil_append]
      have hlen:(U3 P S x R q).length = xs.length:=by rw [ahE,hP,hS,hR];omega
      have gx:=al4 (P:=P) (R:=R) (x:=x) (q:=q) (S:=S) (by omega)
      rw [hP] at gx
      rcases q with _|q
      · have e2:decide (((a + 0:Nat):Int) > (a:Int)) = false:=by simp
        have hf:=hfin hq2.symm
        repeat' (first|refine Qb fun K' hK=>?_|refine Qe fun K' hK=>?_|refine Ql 17 (fun _=>true) rfl (QA) (Qy) fun K' hK=>?_|refine Qm 17 (fun _=>true) rfl (QA) (Qy) fun K' hK=>?_|refine Ql 18 (fun _=>false) rfl (Qz) (Qx) fun K' hK=>?_|refine Qm 18 (fun _=>false) rfl (Qz) (Qx) fun K' hK=>?_|refine Qc ?_|refine Qd ?_|refine Qa ?_|((first|refine Qg ⟨_,rfl,fun hc=>?_,fun hc=>?_⟩|refine Qs (fun hc=>?_) (fun hc=>?_)|refine Qt (fun hc=>?_) (fun hc=>?_))<;>first|(cases hc;done)|((try simp only [znz] at hc);first|exact znf|skip))|refine Qi ?_|refine Qf ?_|simp (maxSteps:=1000000) only [go_sem,Xy,e2,hwi,Q5,Q4]|(refine hK _ ?_;clear hK K')|apply And.intro|exact zlo|omega|exact zms)
        rw [hf]
        exact hL _ (i + 1) (QO []) ⟨by omega,by omega⟩ (by omega) (JE [] (by simp only [go_sem,and_true,true_and,implies_true,Option.some.injEq,exists_eq_left',Qh,Qj];(repeat' (first|rfl|apply And.intro|omega|exact fun h=>h|exact Exists.intro _ rfl))) (by simp only [go_sem,and_true,true_and,implies_true,Option.some.injEq,exists_eq_left',Qh,Qj];(repeat' (first|rfl|apply And.intro|omega|exact fun h=>h|exact Exists.intro _ rfl))) (by simp) (by simp) (by omega))
      · have hqS:q < S.length:=by omega
        have e2:decide (((a + (q + 1):Nat):Int) > (a:Int)) = true:=decide_eq_true (by omega)
        have hwj:IntKind.i64.wrap (((a + (q + 1):Nat):Int) - 1) = ((a + q:Nat):Int):=by rw [WW (by omega) (by omega)];omega
        have gy:=al3 (P:=P) (R:=R) (x:=x) (q:=q) (S:=S) hqS
        rw [hP] at gy
        have hset:=ahD (P:=P) (R:=R) (x:=x) (q:=q) (S:=S) hqS
        rw [hP] at hset
        have hyd:S[q]? = some S[q]:=List.getElem?_eq_getElem hqS
        have hym:S[q]∈xs:=hSm _ (List.getElem_mem hqS)
        rw [gK,hyd] at hq2
        dsimp only at hq2
        generalize S[q] = y at *
        have hcc:=(hcmp x hxm y hym).b
        have hd:=hlt2 x y
        have vx:(List.map usV (U3 P S x R (q + 1)))[a + (q + 1)]? = some (usV x):=by rw [List.getElem?_map,gx];rfl
        have vy:(List.map usV (U3 P S x R (q + 1)))[a + q]? = some (usV y):=by rw [List.getElem?_map,gy];rfl
        have hs1:((List.map usV (U3 P S x R (q + 1))).set (a + (q + 1)) (usV y))[a + q]? = some (usV y):=by
          rw [List.getElem?_set_ne (by omega),List.getElem?_map,gy];rfl
        have hs2:((List.map usV (U3 P S x R (q + 1))).set (a + (q + 1)) (usV y)).set (a + q) (usV x) = List.map usV (U3 P S x R q):=by
          rw [← hset,List.map_set,List.map_set]
        simp only [usV] at vx vy hs1 hs2 hcc
        rcases hl:lt x y with _|_
        · rw [hl] at hd
          simp only [hl,Bool.false_eq_true,if_false] at hq2
          have hf:=hfin hq2.symm
          repeat' (first|refine Qb fun K' hK=>?_|refine Qe fun K' hK=>?_|refine Ql 17 (fun _=>true) rfl (QA) (Qy) fun K' hK=>?_|refine Qm 17 (fun _=>true) rfl (QA) (Qy) fun K' hK=>?_|refine Ql 18 (fun _=>false) rfl (Qz) (Qx) fun K' hK=>?_|refine Qm 18 (fun _=>false) rfl (Qz) (Qx) fun K' hK=>?_|refine Qc ?_|refine Qd ?_|refine Qa ?_|((first|refine Qg ⟨_,rfl,fun hc=>?_,fun hc=>?_⟩|refine Qs (fun hc=>?_) (fun hc=>?_)|refine Qt (fun hc=>?_) (fun hc=>?_))<;>first|(cases hc;done)|((try simp only [znz] at hc);first|exact znf|skip))|refine Qi ?_|refine Qf ?_|simp (maxSteps:=1000000) only [go_sem,Xy,e2,hwi,hwj,Int.toNat_natCast,vx,vy,hd,Q5,Q4]|(refine hK _ ?_;clear hK K')|apply And.intro|((first|apply Qv|apply Jm);(focus first|exact hcc))|exact zlo|omega|exact zms)
          all_goals
            rw [hf]
            exact hL _ (i + 1) (QO []) ⟨by omega,by omega⟩ (by omega) (JE [] (by simp only [go_sem,and_true,true_and,implies_true,Option.some.injEq,exists_eq_left',Qh,Qj];(repeat' (first|rfl|apply And.intro|omega|exact fun h=>h|exact Exists.intro _ rfl))) (by simp only [go_sem,and_true,true_and,implies_true,Option.some.injEq,exists_eq_left',Qh,Qj];(repeat' (first|rfl|apply And.intro|omega|exact fun h=>h|exact Exists.intro _ rfl))) (by simp) (by simp) (by omega))
        · rw [hl] at hd
          simp only [hl,if_true] at hq2
          repeat' (first|refine Qb fun K' hK=>?_|refine Qe fun K' hK=>?_|refine Ql 17 (fun _=>true) rfl (QA) (Qy) fun K' hK=>?_|refine Qm 17 (fun _=>true) rfl (QA) (Qy) fun K' hK=>?_|refine Ql 18 (fun _=>false) rfl (Qz) (Qx) fun K' hK=>?_|refine Qm 18 (fun _=>false) rfl (Qz) (Qx) fun K' hK=>?_|refine Qc ?_|refine Qd ?_|refine Qa ?_|((first|refine Qg ⟨_,rfl,fun hc=>?_,fun hc=>?_⟩|refine Qs (fun hc=>?_) (fun hc=>?_)|refine Qt (fun hc=>?_) (fun hc=>?_))<;>first|(cases hc;done)|((try simp only [znz] at hc);first|exact znf|skip))|refine Qi ?_|refine Qf ?_|simp (maxSteps:=1000000) only [go_sem,Xy,e2,hwi,hwj,Int.toNat_natCast,vx,vy,hd,hs1,hs2,Q5,Q4]|(refine hK _ ?_;clear hK K')|apply And.intro|((first|apply Qv|apply Jm);(focus first|exact hcc))|exact zlo|omega|exact zms)
          all_goals exact hL2 _ q (QO []) ⟨by omega,hq2⟩ (by omega) (JE [] (by simp only [go_sem,and_true,true_and,implies_true,Option.some.injEq,exists_eq_left',Qh,Qj];(repeat' (first|rfl|apply And.intro|omega|exact fun h=>h|exact Exists.intro _ rfl))) (by simp only [go_sem,and_true,true_and,implies_true,Option.some.injEq,exists_eq_left',Qh,Qj];(repeat' (first|rfl|apply And.intro|omega|exact fun h=>h|exact Exists.intro _ rfl))) (by simp) (by simp) (by omega))
def Wc:List AO:=[mv 81 1,bc 82 .gtr 81 (V.int 0),mv 83 82,mg 84 4 83 true,mg 85 0 83 true,mg 86 1 83 true,xg 87 (.bin .sub (.t 86) (.c (V.int 1))) 83 true,xg 88 (.iaddr 2 (.t 85) (.t 87)) 83 true,xg 89 (.load true 2 (.t 88)) 83 true,mg 90 0 83 true,mg 91 13 83 true,xg 92 (.iaddr 2 (.t 90) (.t 91)) 83 true,xg 93 (.load true 2 (.t 92)) 83 true,xg 94 (.callv (.t 84) [(.t 89),(.t 93)]) 83 true,xg 95 (.bin .lss (.t 94) (.c (V.int 0))) 83 true,xg 96 (.un .not (.t 95)) 83 true,xo 97 (.pick (.t 83) (.t 96) (.c (V.bool false)))]
def Wo:List (List Nat):=[[],[0],[1],[2],[2],[2],[5,2],[4,6,2],[7,2],[2],[2],[9,10,2],[11,2],[3,8,12,2,2],[13,2],[14,2],[2,15]]
def X8:OT:=.one 0 (.one 1 (.one 2 (.one 3 (.one 4 (.one 5 (.one 6 (.one 7 (.one 8 (.one 9 (.one 10 (.one 11 (.one 12 (.or 13 (.one 14 (.one 15 (.one 16 (.done)))) (.done))))))))))))))
def Y1:OP:=.one 0 false [] (mv 81 1) (.one 1 false [] (bc 82 .gtr 81 (V.int 0)) (.one 2 false [] (mv 83 82) (.one 3 false [] (mg 84 4 83 true) (.one 4 false [] (mg 85 0 83 true) (.one 5 false [] (mg 86 1 83 true) (.one 6 false [] (xg 87 (.bin .sub (.t 86) (.c (V.int 1))) 83 true) (.one 7 false [] (xg 88 (.iaddr 2 (.t 85) (.t 87)) 83 true) (.one 8 false [] (xg 89 (.load true 2 (.t 88)) 83 true) (.one 9 false [] (mg 90 0 83 true) (.one 10 false [] (mg 91 13 83 true) (.one 11 false [] (xg 92 (.iaddr 2 (.t 90) (.t 91)) 83 true) (.one 12 false [] (xg 93 (.load true 2 (.t 92)) 83 true) (.or 13 true [] (xg 94 (.callv (.t 84) [(.t 89),(.t 93)]) 83 true) (.one 14 false [13] (xg 95 (.bin .lss (.t 94) (.c (V.int 0))) 83 true) (.one 15 false [13] (xg 96 (.un .not (.t 95)) 83 true) (.one 16 false [13] (xo 97 (.pick (.t 83) (.t 96) (.c (V.bool false)))) (.done)))) (.done))))))))))))))
theorem Y2:okR (Wc) Wo [13] X8 = true:=by kernel_rfl
theorem Y0:Ww (ris (Wc) Wo [13]) X8 = Y1:=by kernel_rfl def c_slices_pdqsortCmpFunc_api_Use (J7 Wr Xu XV XF YM Xn Wi JV:Nat):AC:=Qo [0,1,2,3,4,10] (.reg [mc 10 (V.bool true)]) (Qo [0,1,2,3,4,10,11] (.reg [mc 11 (V.bool true)]) (.block 0 (X1 [0,1,2,3,4,10,11] (.block 1 (Qo [0,1,2,3,4,10,11,12] (.reg [mv 21 2,mv 22 1,bn 23 .sub 21 22,mv 12 23]) (Qo [0,1,2,3,4,10,11,12] (Qo [0,1,2,3,4,10,11,12,25] (.reg [mv 24 12,bc 25 .leq 24 (V.int 12)]) (.cond (.t 25) (Qo [] (.reg [mv 26 0,mv 27 1,mv 28 2,mv 29 4,cl 30 J7 [26,27,28,29]]) (.ret)) (.skip))) (Qo [0,1,2,3,4,10,11,12] (Qo [0,1,2,3,4,10,11,12,32] (.reg [mv 31 3,bc 32 .eql 31 (V.int 0)]) (.cond (.t 32) (Qo [] (.reg [mv 33 0,mv 34 1,mv 35 2,mv 36 4,cl 37 Wr [33,34,35,36]]) (.ret)) (.skip))) (Qo [0,1,2,3,4,10,11,12] (Qo [0,1,2,3,4,10,11,12,39] (.reg [mv 38 10,xo 39 (.un .not (.t 38))]) (.cond (.t 39) (Qo [0,1,2,3,4,10,11,12] (.reg [mv 40 0,mv 41 1,mv 42 2,mv 43 4,cl 44 Xu [40,41,42,43]]) (.reg [mv 45 3,bc 46 .sub 45 (V.int 1),mv 3 46])) (.skip))) (Qo [0,1,2,3,4,10,11,12,13,14] (.reg [mv 48 0,mv 49 1,mv 50 2,mv 51 4,cl 52 XV [48,49,50,51],mv 47 52,ex 53 47 0,ex 54 47 1,mv 13 53,mv 14 54]) (Qo [0,1,2,3,4,10,11,12,13,14] (Qo [0,1,2,3,4,10,11,12,13,14,56] (.reg [mv 55 14,bc 56 .eql 55 (V.int 2)]) (.cond (.t 56) (Qo [0,1,2,3,4,10,11,12,13] (.reg [mv 57 0,mv 58 1,mv 59 2,mv 60 4,cl 61 XF [57,58,59,60]]) (Qo [0,1,2,3,4,10,11,12,13] (.reg [mv 62 2,bc 63 .sub 62 (V.int 1),mv 64 13,mv 65 1,bn 66 .sub 64 65,bn 67 .sub 63 66,mv 13 67]) (.reg [mc 14 (V.int 1)]))) (.skip))) (Qo [0,1,2,3,4,10,11,12,13] (Qo [0,1,2,3,4,10,11,12,13,75] (.reg [mv 68 10,mv 69 68,mg 70 11 69 true,xo 71 (.pick (.t 69) (.t 70) (.c (V.bool false))),mv 72 71,mg 73 14 72 true,xg 74 (.bin .eql (.t 73) (.c (V.int 1))) 72 true,xo 75 (.pick (.t 72) (.t 74) (.c (V.bool false)))]) (.cond (.t 75) (Qo [0,1,2,3,4,10,11,12,13,80] (.reg [mv 76 0,mv 77 1,mv 78 2,mv 79 4,cl 80 YM [76,77,78,79]]) (.cond (.t 80) (.ret) (.skip))) (.skip))) (Qo [0,1,2,3,4,12,13] (Qo [0,1,2,3,4,10,11,12,13,97] (ach [13] X8 (Y1) (Wc) Wo) (.cond (.t 97) (Qo [0,2,3,4,10,11,15] (.reg [mv 98 0,mv 99 1,mv 100 2,mv 101 13,mv 102 4,cl 103 Xn [98,99,100,101,102],mv 15 103]) (Qo [0,1,2,3,4,10,11] (.reg [mv 104 15,mv 1 104]) (.exit 1))) (.skip))) (Qo [0,1,2,3,4,12,16,17] (.reg [mv 106 0,mv 107 1,mv 108 2,mv 109 13,mv 110 4,cl 111 Wi [106,107,108,109,110],mv 105 111,ex 112 105 0,ex 113 105 1,mv 16 112,mv 17 113]) (Qo [0,1,2,3,4,11,12,16] (.reg [mv 114 17,mv 11 114]) (Qo [0,1,2,3,4,11,12,16,18,19] (.reg [mv 115 16,mv 116 1,bn 117 .sub 115 116,mv 118 2,mv 119 16,bn 120 .sub 118 119,mv 18 117,mv 19 120]) (Qo [0,1,2,3,4,11,16,18,19,20] (.reg [mv 121 12,bc 122 .quo 121 (V.int 8),mv 20 122]) (Qo [0,1,2,3,4,11,16,18,19,20,125] (.reg [mv 123 18,mv 124 19,bn 125 .lss 123 124]) (.cond (.t 125) (Qo [0,1,2,3,4,10,11,16] (.reg [mv 126 18,mv 127 20,bn 128 .geq 126 127,mv 10 128]) (Qo [0,2,3,4,10,11,16] (.reg [mv 129 0,mv 130 1,mv 131 16,mv 132 3,mv 133 4,cl 134 JV [129,130,131,132,133]]) (.reg [mv 135 16,bc 136 .add 135 (V.int 1),mv 1 136]))) (Qo [0,1,2,3,4,10,11,16] (.reg [mv 137 19,mv 138 20,bn 139 .geq 137 138,mv 10 139]) (Qo [0,1,3,4,10,11,16] (.reg [mv 140 0,mv 141 16,bc 142 .add 141 (V.int 1),mv 143 2,mv 144 3,mv 145 4,cl 146 JV [140,142,143,144,145]]) (.reg [mv 147 16,mv 2 147]))))))))))))))))))))) def r_slices_pdqsortCmpFunc_api_Use:List X0:=[]
def Ws (Γ:Env) (f:Nat):Prop:=∀ (xs:List PU) (lim:Int) (g:Nat) (c:PU→PU→Int) (hcmp:∀ x∈xs,∀ y∈xs,EvN Γ g [usV x,usV y] (V.int (c x y))) (hx:xs.length≤12),EvL Γ f [V.int 0,V.int xs.length,V.int lim,.clo g []] 2 (xs.map usV) (.tup []) (((Uq (fun x y=>decide (c x y < 0)) xs).map usV))
theorem qT {Γ:Env} {f J7 Wr Xu XV XF YM Xn Wi:Nat} (h:Has Γ.P f 148 (c_slices_pdqsortCmpFunc_api_Use J7 Wr Xu XV XF YM Xn Wi f) r_slices_pdqsortCmpFunc_api_Use) (Xt:Xq Γ J7):Ws Γ f:=by
  intro xs lim g c hcmp hx
  refine jd h (by simp) (by simp only [V.closed,Qn,V.noSl,Jx,and_self,and_true,true_and]) fun C hC hm=>?_
  subst hC
  unfold c_slices_pdqsortCmpFunc_api_Use
  have hi:=Xt xs 0 xs.length g c hcmp (by omega) (by omega) (by omega)
  rw [ajw] at hi
  have hi0:EvL C.env J7 [V.int 0,V.int xs.length,.clo g []] 2 (xs.map usV) (.tup []) ((Uq (fun x y=>decide (c x y < 0)) xs).map usV):=hi
  have hw:IntKind.i64.wrap ((xs.length:Int) - 0) = (xs.length:Int):=by rw [WW (by omega) (by omega)];omega
  have e1:decide ((xs.length:Int)≤12) = true:=by simp;omega
  repeat' (first|refine Qb fun K' hK=>?_|refine Qe fun K' hK=>?_|refine Ql 17 (fun _=>true) rfl (Y2) (Y0) fun K' hK=>?_|refine Qm 17 (fun _=>true) rfl (Y2) (Y0) fun K' hK=>?_|refine Qc ?_|refine Qd ?_|refine Qa ?_|((first|refine Qg ⟨_,rfl,fun hc=>?_,fun hc=>?_⟩|refine Qs (fun hc=>?_) (fun hc=>?_)|refine Qt (fun hc=>?_) (fun hc=>?_))<;>first|(cases hc;done)|((try simp only [znz] at hc);first|exact znf|skip))|refine Qi ?_|refine Qf ?_|simp (maxSteps:=1000000) only [go_sem,Y1]|(refine hK _ ?_;clear hK K')|apply And.intro|(apply Ut;(focus exact rfl);(focus first|exact (Xt _ _ _ _ _ zsd zsd zsd zsd)|exact (Xm _ _ _ _ zsd zsd));(focus exact rfl);(focus (first|(simp;done)|omega|(simp only [List.length_map];omega))))|exact zlo|omega|exact zms)
  refine ajM ?_
  repeat' (first|refine Qb fun K' hK=>?_|refine Qe fun K' hK=>?_|refine Ql 17 (fun _=>true) rfl (Y2) (Y0) fun K' hK=>?_|refine Qm 17 (fun _=>true) rfl (Y2) (Y0) fun K' hK=>?_|refine Qc ?_|refine Qd ?_|refine Qa ?_|((first|refine Qg ⟨_,rfl,fun hc=>?_,fun hc=>?_⟩|refine Qs (fun hc=>?_) (fun hc=>?_)|refine Qt (fun hc=>?_) (fun hc=>?_))<;>first|(cases hc;done)|((try simp only [znz] at hc);first|exact znf|skip))|refine Qi ?_|refine Qf ?_|simp (maxSteps:=1000000) only [go_sem,hw,e1,Y1]|(refine hK _ ?_;clear hK K')|apply And.intro|(apply Ut;(focus exact rfl);(focus first|exact hi0|exact (Xt _ _ _ _ _ zsd zsd zsd zsd)|exact (Xm _ _ _ _ zsd zsd));(focus exact rfl);(focus (first|(simp;done)|omega|(simp only [List.length_map];omega))))|exact zlo|omega|exact zms)
  all_goals first|(refine xi _ rfl rfl (by simp only [go_sem]) ?_;done)|(refine xi _ rfl rfl (by simp only [go_sem]) ?_;rfl)|(refine xi _ rfl rfl (by simp only [go_sem]) ?_<;>first|rfl|(simp;done))
def XW (Wl JV:Nat):AC:=Qo [0,1,4] (.reg [mv 5 0,ln 6 5,mv 4 6]) (.reg [mv 7 0,mv 8 4,mv 9 4,xo 10 (.convI .u64 (.t 9)),cl 11 Wl [10],mv 12 1,xo 13 (.call JV [(.t 7),(.c (V.int 0)),(.t 8),(.t 11),(.t 12)])]) def r_slices_SortFunc___api_Use_api_Use:List X0:=[]
def XK (Γ:Env) (f:Nat):Prop:=∀ (xs:List PU) (g:Nat) (c:PU→PU→Int) (hcmp:∀ x∈xs,∀ y∈xs,EvN Γ g [usV x,usV y] (V.int (c x y))) (hx:xs.length≤12),EvL Γ f [.clo g []] 2 (xs.map usV) (.tup []) (((Uq (fun x y=>decide (c x y < 0)) xs).map usV))
theorem Ks {Γ:Env} {f Wl JV:Nat} (h:Has Γ.P f 14 (XW Wl JV) r_slices_SortFunc___api_Use_api_Use) (UP:Uu Γ Wl) (Xm:Ws Γ JV):XK Γ f:=by
  intro xs g c hcmp hx
  refine jd h (by simp) (by simp only [V.closed,Qn,V.noSl,Jx,and_self,and_true,true_and]) fun C hC hm=>?_
  subst hC
  unfold XW
  obtain ⟨lim,hlim⟩:=age UP xs.length hx
  have hi:=Xm xs lim g c hcmp hx
  have e:((xs.map usV).length:Int) = (xs.length:Int):=by simp
  have hb:=hlim.b
  have hw:IntKind.u64.wrap (xs.length:Int) = (xs.length:Int):=ai2 (by omega) (by omega)
  repeat' (first|refine Qb fun K' hK=>?_|refine Qe fun K' hK=>?_|refine Qc ?_|refine Qd ?_|refine Qa ?_|((first|refine Qg ⟨_,rfl,fun hc=>?_,fun hc=>?_⟩|refine Qs (fun hc=>?_) (fun hc=>?_)|refine Qt (fun hc=>?_) (fun hc=>?_))<;>first|(cases hc;done)|((try simp only [znz] at hc);first|exact znf|skip))|refine Qi ?_|refine Qf ?_|simp (maxSteps:=1000000) only [go_sem,e,hw]|(refine hK _ ?_;clear hK K')|apply And.intro|(apply Ut;(focus exact rfl);(focus first|exact hi|exact (Xm _ _ _ _ zsd zsd));(focus exact rfl);(focus (first|(simp;done)|omega|(simp only [List.length_map];omega))))|(apply Qv;(focus first|exact hb|exact (UP _ zsd).b))|exact zlo|omega|exact zms)
  all_goals first|(refine xi _ rfl rfl (by simp only [go_sem]) ?_;done)|(refine xi _ rfl rfl (by simp only [go_sem]) ?_;rfl)
end Av
end
section
set_option linter.unusedSimpArgs false
set_option linter.unusedVariables false
set_option maxRecDepth 10000
set_option maxHeartbeats 4000000
namespace Av
open Go
attribute [local irreducible] AWp WY Vp Vq awS awC V1 awQ Uh Q9 YQ VZ awR YT awB okR Ww ris
def XU (Jl:Nat):List AO:=[mv 16 7,mv 17 1,bn 18 .gtr 16 17,mv 19 18,mg 20 0 19 true,mg 21 7 19 true,xg 22 (.iaddr 1 (.t 20) (.t 21)) 19 true,xg 23 (.load false 1 (.t 22)) 19 true,mg 24 0 19 true,mg 25 7 19 true,xg 26 (.bin .sub (.t 25) (.c (V.int 1))) 19 true,xg 27 (.iaddr 1 (.t 24) (.t 26)) 19 true,xg 28 (.load false 1 (.t 27)) 19 true,xg 29 (.call Jl [(.t 23),(.t 28)]) 19 true,xo 30 (.pick (.t 19) (.t 29) (.c (V.bool false)))]
def XY:List (List Nat):=[[],[],[0,1],[2],[3],[3],[4,5,3],[6,3],[3],[3],[9,3],[8,10,3],[11,3],[7,12,3,3],[3,13]]
def XS:OT:=.one 0 (.one 1 (.one 2 (.one 3 (.one 4 (.one 5 (.one 6 (.one 7 (.one 8 (.one 9 (.one 10 (.one 11 (.one 12 (.one 13 (.one 14 (.done)))))))))))))))
def Je (Jl:Nat):OP:=.one 0 false [] (mv 16 7) (.one 1 false [] (mv 17 1) (.one 2 false [] (bn 18 .gtr 16 17) (.one 3 false [] (mv 19 18) (.one 4 false [] (mg 20 0 19 true) (.one 5 false [] (mg 21 7 19 true) (.one 6 false [] (xg 22 (.iaddr 1 (.t 20) (.t 21)) 19 true) (.one 7 false [] (xg 23 (.load false 1 (.t 22)) 19 true) (.one 8 false [] (mg 24 0 19 true) (.one 9 false [] (mg 25 7 19 true) (.one 10 false [] (xg 26 (.bin .sub (.t 25) (.c (V.int 1))) 19 true) (.one 11 false [] (xg 27 (.iaddr 1 (.t 24) (.t 26)) 19 true) (.one 12 false [] (xg 28 (.load false 1 (.t 27)) 19 true) (.one 13 false [] (xg 29 (.call Jl [(.t 23),(.t 28)]) 19 true) (.one 14 false [13] (xo 30 (.pick (.t 19) (.t 29) (.c (V.bool false)))) (.done)))))))))))))))
theorem QK (Jl:Nat):okR (XU Jl) XY [] XS = true:=by kernel_rfl
theorem QI (Jl:Nat):Ww (ris (XU Jl) XY []) XS = Je Jl:=by kernel_rfl
def XT:List AO:=[mv 33 0,mv 34 7,mv 35 0,mv 36 7,bc 37 .sub 36 (V.int 1),mv 38 0,mv 39 7,bc 40 .sub 39 (V.int 1),ia 41 1 38 40,ld 42 1 41,mv 43 0,mv 44 7,ia 45 1 43 44,ld 46 1 45,ia 47 1 33 34,xs 1 47 42,ia 48 1 35 37,xs 1 48 46]
def XX:List (List Nat):=[[],[],[],[],[3],[],[],[6],[5,7],[8],[],[],[10,11],[12],[0,1,0,1,5,6,7,8,9,13],[14,9,0,1,5,6,7,8,9,13],[2,4,0,1,2,3,4,5,6,7,8,9,10,11,12,13,14,15],[16,13,15,0,1,2,3,4,5,6,7,8,9,10,11,12,13,14,15]]
def XR:OT:=.one 0 (.one 1 (.one 2 (.one 3 (.one 4 (.one 5 (.one 6 (.one 7 (.one 10 (.one 11 (.or 8 (.or 9 (.or 12 (.one 13 (.one 14 (.one 15 (.one 16 (.one 17 (.done)))))) (.done)) (.or 12 (.or 9 (.one 13 (.one 14 (.one 15 (.one 16 (.one 17 (.done)))))) (.or 13 (.one 9 (.one 14 (.one 15 (.one 16 (.one 17 (.done)))))) (.done))) (.done))) (.or 12 (.or 8 (.or 9 (.one 13 (.one 14 (.one 15 (.one 16 (.one 17 (.done)))))) (.or 13 (.one 9 (.one 14 (.one 15 (.one 16 (.one 17 (.done)))))) (.done))) (.or 13 (.one 8 (.one 9 (.one 14 (.one 15 (.one 16 (.one 17 (.done))))))) (.done))) (.done))))))))))))
def Jd:OP:=.one 0 false [] (mv 33 0) (.one 1 false [] (mv 34 7) (.one 2 false [] (mv 35 0) (.one 3 false [] (mv 36 7) (.one 4 false [] (bc 37 .sub 36 (V.int 1)) (.one 5 false [] (mv 38 0) (.one 6 false [] (mv 39 7) (.one 7 false [] (bc 40 .sub 39 (V.int 1)) (.one 10 false [] (mv 43 0) (.one 11 false [] (mv 44 7) (.or 8 true [] (ia 41 1 38 40) (.or 9 true [] (ld 42 1 41) (.or 12 true [] (ia 45 1 43 44) (.one 13 true [] (ld 46 1 45) (.one 14 true [] (ia 47 1 33 34) (.one 15 true [] (xs 1 47 42) (.one 16 true [] (ia 48 1 35 37) (.one 17 true [] (xs 1 48 46) (.done)))))) (.done)) (.or 12 true [] (ia 45 1 43 44) (.or 9 true [] (ld 42 1 41) (.one 13 true [] (ld 46 1 45) (.one 14 true [] (ia 47 1 33 34) (.one 15 true [] (xs 1 47 42) (.one 16 true [] (ia 48 1 35 37) (.one 17 true [] (xs 1 48 46) (.done)))))) (.or 13 true [] (ld 46 1 45) (.one 9 true [] (ld 42 1 41) (.one 14 true [] (ia 47 1 33 34) (.one 15 true [] (xs 1 47 42) (.one 16 true [] (ia 48 1 35 37) (.one 17 true [] (xs 1 48 46) (.done)))))) (.done))) (.done))) (.or 12 true [] (ia 45 1 43 44) (.or 8 true [] (ia 41 1 38 40) (.or 9 true [] (ld 42 1 41) (.one 13 true [] (ld 46 1 45) (.one 14 true [] (ia 47 1 33 34) (.one 15 true [] (xs 1 47 42) (.one 16 true [] (ia 48 1 35 37) (.one 17 true [] (xs 1 48 46) (.done)))))) (.or 13 true [] (ld 46 1 45) (.one 9 true [] (ld 42 1 41) (.one 14 true [] (ia 47 1 33 34) (.one 15 true [] (xs 1 47 42) (.one 16 true [] (ia 48 1 35 37) (.one 17 true [] (xs 1 48 46) (.done)))))) (.done))) (.or 13 true [] (ld 46 1 45) (.one 8 true [] (ia 41 1 38 40) (.one 9 true [] (ld 42 1 41) (.one 14 true [] (ia 47 1 33 34) (.one 15 true [] (xs 1 47 42) (.one 16 true [] (ia 48 1 35 37) (.one 17 true [] (xs 1 48 46) (.done))))))) (.done))) (.done))))))))))))
theorem QJ:okR (XT) XX [8,9,12,13,14,16] XR = true:=by kernel_rfl
theorem QH:Ww (ris (XT) XX [8,9,12,13,14,16]) XR = Jd:=by kernel_rfl def c_slices_insertionSortOrdered_int (Jl:Nat):AC:=Qo [0,1,2,6] (.reg [mv 8 1,bc 9 .add 8 (V.int 1),mv 6 9]) (.block 0 (X1 [0,1,2,6] (Qo [0,1,2,6] (Qo [0,1,2,6,12] (.reg [mv 10 6,mv 11 2,bn 12 .lss 10 11]) (.cond (.t 12) (.skip) (.exit 0))) (Qo [0,1,2,6] (.block 1 (Qo [0,1,2,6,7] (.reg [mv 15 6,mv 7 15]) (.block 2 (X1 [0,1,2,6,7] (Qo [0,1,2,6,7] (Qo [0,1,2,6,7,30] (ach [] XS (Je Jl) (XU Jl) XY) (.cond (.t 30) (.skip) (.exit 2))) (Qo [0,1,2,6,7] (.block 3 (ach [8,9,12,13,14,16] XR (Jd) (XT) XX)) (.reg [mv 31 7,bc 32 .sub 31 (V.int 1),mv 7 32]))))))) (.reg [mv 13 6,bc 14 .add 13 (V.int 1),mv 6 14]))))) def r_slices_insertionSortOrdered_int:List X0:=[]
def X5 (Γ:Env) (f:Nat):Prop:=∀ (xs:List Int) (a b:Nat) (hab:a≤b) (hb:b≤xs.length) (hx:xs.length < 2 ^ 34),EvL Γ f [V.int a,V.int b] 1 (xs.map V.int) (.tup []) ((if a = b then xs.map V.int else (wu (fun x y:Int=>decide (x < y)) xs a b).map V.int))
theorem qa {Γ:Env} {f Jl:Nat} (h:Has Γ.P f 49 (c_slices_insertionSortOrdered_int Jl) r_slices_insertionSortOrdered_int) (Xk:qP Γ Jl):X5 Γ f:=by
  intro xs a b hab hb hx
  refine jd h (by simp) (by simp only [V.closed,Qn,V.noSl,Jx,and_self,and_true,true_and]) fun C hC hm=>?_
  subst hC
  unfold c_slices_insertionSortOrdered_int
  have hwa:=Jq (k:=a) (by omega)
  by_cases he:a = b
  · subst he
    rw [if_pos rfl]
    have e1:decide (((a + 1:Nat):Int) < (a:Int)) = false:=by simp;omega
    repeat' (first|refine Qb fun K' hK=>?_|refine Qe fun K' hK=>?_|refine Ql 15 (fun _=>true) rfl (QK _) (QI _) fun K' hK=>?_|refine Qm 15 (fun _=>true) rfl (QK _) (QI _) fun K' hK=>?_|refine Ql 18 (fun _=>false) rfl (QJ) (QH) fun K' hK=>?_|refine Qm 18 (fun _=>false) rfl (QJ) (QH) fun K' hK=>?_|refine Qc ?_|refine Qd ?_|refine Qa ?_|((first|refine Qg ⟨_,rfl,fun hc=>?_,fun hc=>?_⟩|refine Qs (fun hc=>?_) (fun hc=>?_)|refine Qt (fun hc=>?_) (fun hc=>?_))<;>first|(cases hc;done)|((try simp only [znz] at hc);first|exact znf|skip))|refine Qi ?_|refine Qf ?_|simp (maxSteps:=1000000) only [go_sem,hwa,Je,Jd]|(refine hK _ ?_;clear hK K')|apply And.intro|((first|apply Qv|apply Jm);(focus first|exact (Xk _ _).b))|exact zlo|omega|exact zms)
    refine JR (ι:=Unit) (fun _=>True) (fun _=>Xy [(0,.hd 0 0 (xs.map V.int).length),(1,V.int a),(2,V.int a),(6,V.int (a + 1:Nat))] [(0,.buf true 1 (xs.map V.int))] 1) (fun _=>0) () trivial (QO []) (JE [] (by simp only [go_sem,and_true,true_and,implies_true,Option.some.injEq,exists_eq_left',Qh,Qj];(repeat' (first|rfl|apply And.intro|omega|exact fun h=>h|exact Exists.intro _ rfl))) (by simp only [go_sem,and_true,true_and,implies_true,Option.some.injEq,exists_eq_left',Qh,Qj];(repeat' (first|rfl|apply And.intro|omega|exact fun h=>h|exact Exists.intro _ rfl))) (by simp) (by simp) (by omega)) fun j hj K'' hL2=>?_
    repeat' (first|refine Qb fun K' hK=>?_|refine Qe fun K' hK=>?_|refine Ql 15 (fun _=>true) rfl (QK _) (QI _) fun K' hK=>?_|refine Qm 15 (fun _=>true) rfl (QK _) (QI _) fun K' hK=>?_|refine Ql 18 (fun _=>false) rfl (QJ) (QH) fun K' hK=>?_|refine Qm 18 (fun _=>false) rfl (QJ) (QH) fun K' hK=>?_|refine Qc ?_|refine Qd ?_|refine Qa ?_|((first|refine Qg ⟨_,rfl,fun hc=>?_,fun hc=>?_⟩|refine Qs (fun hc=>?_) (fun hc=>?_)|refine Qt (fun hc=>?_) (fun hc=>?_))<;>first|(cases hc;done)|((try simp only [znz] at hc);first|exact znf|skip))|refine Qi ?_|refine Qf ?_|simp (maxSteps:=1000000) only [go_sem,Xy,e1,Je,Jd]|(refine hK _ ?_;clear hK K')|apply And.intro|((first|apply Qv|apply Jm);(focus first|exact (Xk _ _).b))|exact zlo|omega|exact zms)
    all_goals first|(refine xi _ rfl rfl (by simp only [go_sem]) ?_<;>first|rfl|(simp;done))
  · rw [if_neg he]
    repeat' (first|refine Qb fun K' hK=>?_|refine Qe fun K' hK=>?_|refine Ql 15 (fun _=>true) rfl (QK _) (QI _) fun K' hK=>?_|refine Qm 15 (fun _=>true) rfl (QK _) (QI _) fun K' hK=>?_|refine Ql 18 (fun _=>false) rfl (QJ) (QH) fun K' hK=>?_|refine Qm 18 (fun _=>false) rfl (QJ) (QH) fun K' hK=>?_|refine Qc ?_|refine Qd ?_|refine Qa ?_|((first|refine Qg ⟨_,rfl,fun hc=>?_,fun hc=>?_⟩|refine Qs (fun hc=>?_) (fun hc=>?_)|refine Qt (fun hc=>?_) (fun hc=>?_))<;>first|(cases hc;done)|((try simp only [znz] at hc);first|exact znf|skip))|refine Qi ?_|refine Qf ?_|simp (maxSteps:=1000000) only [go_sem,hwa,Je,Jd]|(refine hK _ ?_;clear hK K')|apply And.intro|((first|apply Qv|apply Jm);(focus first|exact (Xk _ _).b))|exact zlo|omega|exact zms)
    generalize hlt:(fun x y:Int=>decide (x < y)) = lt
    have hlt2:∀ x y:Int,decide (x < y) = lt x y:=by intro x y;rw [← hlt]
    refine JR (ι:=Nat) (fun i=>a + 1≤i∧i≤b) (fun i=>Xy [(0,.hd 0 0 (xs.map V.int).length),(1,V.int a),(2,V.int b),(6,V.int i)] [(0,.buf true 1 ((wu lt xs a i).map V.int))] 1) (fun i=>b - i) (a + 1) ⟨by omega,by omega⟩ (QO []) (JE [] (by simp only [go_sem,and_true,true_and,implies_true,Option.some.injEq,exists_eq_left',Qh,Qj];(repeat' (first|rfl|apply And.intro|omega|exact fun h=>h|exact Exists.intro _ rfl))) (by rw [ahG (by omega)];simp only [go_sem,and_true,true_and,implies_true,Option.some.injEq,exists_eq_left',Qh,Qj];(repeat' (first|rfl|apply And.intro|omega|exact fun h=>h|exact Exists.intro _ rfl))) (by simp) (by simp) (by omega)) fun i hi K' hL=>?_
    obtain ⟨hi1,hi2⟩:=hi
    by_cases hib:i = b
    · subst hib
      have e1:decide ((i:Int) < (i:Int)) = false:=by simp
      repeat' (first|refine Qb fun K' hK=>?_|refine Qe fun K' hK=>?_|refine Ql 15 (fun _=>true) rfl (QK _) (QI _) fun K' hK=>?_|refine Qm 15 (fun _=>true) rfl (QK _) (QI _) fun K' hK=>?_|refine Ql 18 (fun _=>false) rfl (QJ) (QH) fun K' hK=>?_|refine Qm 18 (fun _=>false) rfl (QJ) (QH) fun K' hK=>?_|refine Qc ?_|refine Qd ?_|refine Qa ?_|((first|refine Qg ⟨_,rfl,fun hc=>?_,fun hc=>?_⟩|refine Qs (fun hc=>?_) (fun hc=>?_)|refine Qt (fun hc=>?_) (fun hc=>?_))<;>first|(cases hc;done)|((try simp only [znz] at hc);first|exact znf|skip))|refine Qi ?_|refine Qf ?_|simp (maxSteps:=1000000) only [go_sem,Xy,e1,Je,Jd]|(refine hK _ ?_;clear hK K')|apply And.intro|((first|apply Qv|apply Jm);(focus first|exact (Xk _ _).b))|exact zlo|omega|exact zms)
      all_goals first|(refine xi _ rfl rfl (by simp only [go_sem]) ?_<;>first|rfl|(simp;done))
    · have e1:decide ((i:Int) < (b:Int)) = true:=by simp;omega
      have hwi:=Jq (k:=i) (by omega)
      obtain ⟨x,hget⟩:∃ x,xs[i]? = some x:=⟨_,List.getElem?_eq_getElem (by omega)⟩
      have hxm:x∈xs:=List.mem_of_getElem? hget
      have hdx:xs.drop i = x :: xs.drop (i + 1):=by
        rw [List.drop_eq_getElem_cons (by omega)];congr 1
        rw [List.getElem?_eq_getElem (by omega)] at hget;exact Option.some.inj hget
      have hP:(xs.take a).length = a:=by simp;omega
      have hS:(Uq lt ((xs.take i).drop a)).length = i - a:=by rw [yy];simp;omega
      have hSm:∀ y∈Uq lt ((xs.take i).drop a),y∈xs:=fun y hy=>List.mem_of_mem_take (List.mem_of_mem_drop (abM.1 hy))
      have hnext:wu lt xs a (i + 1) = xs.take a++(agD lt (Uq lt ((xs.take i).drop a)) x++xs.drop (i + 1)):=by
        have:(xs.take (i + 1)).drop a = (xs.take i).drop a++[x]:=by
          rw [List.take_add_one,hget,List.drop_append_of_le_length (by simp;omega)];rfl
        rw [wu,this,Uq,List.foldl_append];rfl
      have hnow:wu lt xs a i = U3 (xs.take a) (Uq lt ((xs.take i).drop a)) x (xs.drop (i + 1)) (i - a):=by
        rw [wu,hdx,U3,← hS,List.take_length,List.drop_length];rfl
      rw [hnow]
      generalize Uq lt ((xs.take i).drop a) = S at *
      have hPg:=hP
      generalize xs.take a = P at *
      have hR:(xs.drop (i + 1)).length = xs.length - (i + 1):=List.length_drop
      generalize xs.drop (i + 1) = R at *
      repeat' (first|refine Qb fun K' hK=>?_|refine Qe fun K' hK=>?_|refine Ql 15 (fun _=>true) rfl (QK _) (QI _) fun K' hK=>?_|refine Qm 15 (fun _=>true) rfl (QK _) (QI _) fun K' hK=>?_|refine Ql 18 (fun _=>false) rfl (QJ) (QH) fun K' hK=>?_|refine Qm 18 (fun _=>false) rfl (QJ) (QH) fun K' hK=>?_|refine Qc ?_|refine Qd ?_|refine Qa ?_|((first|refine Qg ⟨_,rfl,fun hc=>?_,fun hc=>?_⟩|refine Qs (fun hc=>?_) (fun hc=>?_)|refine Qt (fun hc=>?_) (fun hc=>?_))<;>first|(cases hc;done)|((try simp only [znz] at hc);first|exact znf|skip))|refine Qi ?_|refine Qf ?_|simp (maxSteps:=1000000) only [go_sem,Xy,e1,Je,Jd]|(refine hK _ ?_;clear hK K')|apply And.intro|((first|apply Qv|apply Jm);(focus first|exact (Xk _ _).b))|exact zlo|omega|exact zms)
      refine JR (ι:=Nat) (fun q=>q≤i - a∧gK lt S x q = gK lt S x S.length) (fun q=>Xy [(0,.hd 0 0 (xs.map V.int).length),(1,V.int a),(2,V.int b),(6,V.int i),(7,V.int (a + q:Nat))] [(0,.buf true 1 ((U3 P S x R q).map V.int))] 1) (fun q=>q) (i - a) ⟨by omega,by rw [hS]⟩ (QO []) (JE [] (by rw [show a + (i - a) = i by omega];simp only [go_sem,and_true,true_and,implies_true,Option.some.injEq,exists_eq_left',Qh,Qj];(repeat' (first|rfl|apply And.intro|omega|exact fun h=>h|exact Exists.intro _ rfl))) (by simp only [go_sem,and_true,true_and,implies_true,Option.some.injEq,exists_eq_left',Qh,Qj];(repeat' (first|rfl|apply And.intro|omega|exact fun h=>h|exact Exists.intro _ rfl))) (by simp) (by simp) (by omega)) fun q hq K'' hL2=>?_
      obtain ⟨hq1,hq2⟩:=hq
      have hfin:gK lt S x S.length = q→U3 P S x R q = wu lt xs a (i + 1):=by
        intro h
        rw [hnext,agD,h];simp only [U3,List.append_assoc,List.singleton_append,List.cons_append,List.nil_append]
      have hlen:(U3 P S x R q).length = xs.length:=by rw [ahE,hP,hS,hR];omega
      have gx:=al4 (P:=P) (R:=R) (x:=x) (q:=q) (S:=S) (by omega)
      rw [hP] at gx
      rcases q with _|q
      · have e2:decide (((a + 0:Nat):Int) > (a:Int)) = false:=by simp
        have hf:=hfin hq2.symm
        repeat' (first|refine Qb fun K' hK=>?_|refine Qe fun K' hK=>?_|refine Ql 15 (fun _=>true) rfl (QK _) (QI _) fun K' hK=>?_|refine Qm 15 (fun _=>true) rfl (QK _) (QI _) fun K' hK=>?_|refine Ql 18 (fun _=>false) rfl (QJ) (QH) fun K' hK=>?_|refine Qm 18 (fun _=>false) rfl (QJ) (QH) fun K' hK=>?_|refine Qc ?_|refine Qd ?_|refine Qa ?_|((first|refine Qg ⟨_,rfl,fun hc=>?_,fun hc=>?_⟩|refine Qs (fun hc=>?_) (fun hc=>?_)|refine Qt (fun hc=>?_) (fun hc=>?_))<;>first|(cases hc;done)|((try simp only [znz] at hc);first|exact znf|skip))|refine Qi ?_|refine Qf ?_|simp (maxSteps:=1000000) only [go_sem,Xy,e2,hwi,Je,Jd]|(refine hK _ ?_;clear hK K')|apply And.intro|((first|apply Qv|apply Jm);(focus first|exact (Xk _ _).b))|exact zlo|omega|exact zms)
        rw [hf]
        exact hL _ (i + 1) (QO []) ⟨by omega,by omega⟩ (by omega) (JE [] (by simp only [go_sem,and_true,true_and,implies_true,Option.some.injEq,exists_eq_left',Qh,Qj];(repeat' (first|rfl|apply And.intro|omega|exact fun h=>h|exact Exists.intro _ rfl))) (by simp only [go_sem,and_true,true_and,implies_true,Option.some.injEq,exists_eq_left',Qh,Qj];(repeat' (first|rfl|apply And.intro|omega|exact fun h=>h|exact Exists.intro _ rfl))) (by simp) (by simp) (by omega))
      · have hqS:q < S.length:=by omega
        have e2:decide (((a + (q + 1):Nat):Int) > (a:Int)) = true:=decide_eq_true (by omega)
        have hwj:IntKind.i64.wrap (((a + (q + 1):Nat):Int) - 1) = ((a + q:Nat):Int):=by rw [WW (by omega) (by omega)];omega
        have gy:=al3 (P:=P) (R:=R) (x:=x) (q:=q) (S:=S) hqS
        rw [hP] at gy
        have hset:=ahD (P:=P) (R:=R) (x:=x) (q:=q) (S:=S) hqS
        rw [hP] at hset
        have hyd:S[q]? = some S[q]:=List.getElem?_eq_getElem hqS
        have hym:S[q]∈xs:=hSm _ (List.getElem_mem hqS)
        rw [gK,hyd] at hq2
        dsimp only at hq2
        generalize S[q] = y at *
        have hcc:=(Xk x y).b
        have hd:=hlt2 x y
        have vx:(List.map V.int (U3 P S x R (q + 1)))[a + (q + 1)]? = some (V.int x):=by rw [List.getElem?_map,gx];rfl
        have vy:(List.map V.int (U3 P S x R (q + 1)))[a + q]? = some (V.int y):=by rw [List.getElem?_map,gy];rfl
        have hs1:((List.map V.int (U3 P S x R (q + 1))).set (a + (q + 1)) (V.int y))[a + q]? = some (V.int y):=by
          rw [List.getElem?_set_ne (by omega),List.getElem?_map,gy];rfl
        have hs2:((List.map V.int (U3 P S x R (q + 1))).set (a + (q + 1)) (V.int y)).set (a + q) (V.int x) = List.map V.int (U3 P S x R q):=by
          rw [← hset,List.map_set,List.map_set]
        rcases hl:lt x y with _|_
        · rw [hl] at hd
          simp only [hl,Bool.false_eq_true,if_false] at hq2
          have hf:=hfin hq2.symm
          repeat' (first|refine Qb fun K' hK=>?_|refine Qe fun K' hK=>?_|refine Ql 15 (fun _=>true) rfl (QK _) (QI _) fun K' hK=>?_|refine Qm 15 (fun _=>true) rfl (QK _) (QI _) fun K' hK=>?_|refine Ql 18 (fun _=>false) rfl (QJ) (QH) fun K' hK=>?_|refine Qm 18 (fun _=>false) rfl (QJ) (QH) fun K' hK=>?_|refine Qc ?_|refine Qd ?_|refine Qa ?_|((first|refine Qg ⟨_,rfl,fun hc=>?_,fun hc=>?_⟩|refine Qs (fun hc=>?_) (fun hc=>?_)|refine Qt (fun hc=>?_) (fun hc=>?_))<;>first|(cases hc;done)|((try simp only [znz] at hc);first|exact znf|skip))|refine Qi ?_|refine Qf ?_|simp (maxSteps:=1000000) only [go_sem,Xy,e2,hwi,hwj,Int.toNat_natCast,vx,vy,hd,Je,Jd]|(refine hK _ ?_;clear hK K')|apply And.intro|((first|apply Qv|apply Jm);(focus first|exact hcc|exact (Xk _ _).b))|exact zlo|omega|exact zms)
          all_goals
            rw [hf]
            exact hL _ (i + 1) (QO []) ⟨by omega,by omega⟩ (by omega) (JE [] (by simp only [go_sem,and_true,true_and,implies_true,Option.some.injEq,exists_eq_left',Qh,Qj];(repeat' (first|rfl|apply And.intro|omega|exact fun h=>h|exact Exists.intro _ rfl))) (by simp only [go_sem,and_true,true_and,implies_true,Option.some.injEq,exists_eq_left',Qh,Qj];(repeat' (first|rfl|apply And.intro|omega|exact fun h=>h|exact Exists.intro _ rfl))) (by simp) (by simp) (by omega))
        · rw [hl] at hd
          simp only [hl,if_true] at hq2
          repeat' (first|refine Qb fun K' hK=>?_|refine Qe fun K' hK=>?_|refine Ql 15 (fun _=>true) rfl (QK _) (QI _) fun K' hK=>?_|refine Qm 15 (fun _=>true) rfl (QK _) (QI _) fun K' hK=>?_|refine Ql 18 (fun _=>false) rfl (QJ) (QH) fun K' hK=>?_|refine Qm 18 (fun _=>false) rfl (QJ) (QH) fun K' hK=>?_|refine Qc ?_|refine Qd ?_|refine Qa ?_|((first|refine Qg ⟨_,rfl,fun hc=>?_,fun hc=>?_⟩|refine Qs (fun hc=>?_) (fun hc=>?_)|refine Qt (fun hc=>?_) (fun hc=>?_))<;>first|(cases hc;done)|((try simp only [znz] at hc);first|exact znf|skip))|refine Qi ?_|refine Qf ?_|simp (maxSteps:=1000000) only [go_sem,Xy,e2,hwi,hwj,Int.toNat_natCast,vx,vy,hd,hs1,hs2,Je,Jd]|(refine hK _ ?_;clear hK K')|apply And.intro|((first|apply Qv|apply Jm);(focus first|exact hcc|exact (Xk _ _).b))|exact zlo|omega|exact zms)
          all_goals exact hL2 _ q (QO []) ⟨by omega,hq2⟩ (by omega) (JE [] (by simp only [go_sem,and_true,true_and,implies_true,Option.some.injEq,exists_eq_left',Qh,Qj];(repeat' (first|rfl|apply And.intro|omega|exact fun h=>h|exact Exists.intro _ rfl))) (by simp only [go_sem,and_true,true_and,implies_true,Option.some.injEq,exists_eq_left',Qh,Qj];(repeat' (first|rfl|apply And.intro|omega|exact fun h=>h|exact Exists.intro _ rfl))) (by simp) (by simp) (by omega))
def WZ (Jl:Nat):List AO:=[mv 73 1,bc 74 .gtr 73 (V.int 0),mv 75 74,mg 76 0 75 true,mg 77 1 75 true,xg 78 (.bin .sub (.t 77) (.c (V.int 1))) 75 true,xg 79 (.iaddr 1 (.t 76) (.t 78)) 75 true,xg 80 (.load false 1 (.t 79)) 75 true,mg 81 0 75 true,mg 82 11 75 true,xg 83 (.iaddr 1 (.t 81) (.t 82)) 75 true,xg 84 (.load false 1 (.t 83)) 75 true,xg 85 (.call Jl [(.t 80),(.t 84)]) 75 true,xg 86 (.un .not (.t 85)) 75 true,xo 87 (.pick (.t 75) (.t 86) (.c (V.bool false)))]
def W2:List (List Nat):=[[],[0],[1],[2],[2],[4,2],[3,5,2],[6,2],[2],[2],[8,9,2],[10,2],[7,11,2,2],[12,2],[2,13]]
def WX:OT:=.one 0 (.one 1 (.one 2 (.one 3 (.one 4 (.one 5 (.one 6 (.one 7 (.one 8 (.one 9 (.one 10 (.one 11 (.or 12 (.one 13 (.one 14 (.done))) (.done)))))))))))))
def XM (Jl:Nat):OP:=.one 0 false [] (mv 73 1) (.one 1 false [] (bc 74 .gtr 73 (V.int 0)) (.one 2 false [] (mv 75 74) (.one 3 false [] (mg 76 0 75 true) (.one 4 false [] (mg 77 1 75 true) (.one 5 false [] (xg 78 (.bin .sub (.t 77) (.c (V.int 1))) 75 true) (.one 6 false [] (xg 79 (.iaddr 1 (.t 76) (.t 78)) 75 true) (.one 7 false [] (xg 80 (.load false 1 (.t 79)) 75 true) (.one 8 false [] (mg 81 0 75 true) (.one 9 false [] (mg 82 11 75 true) (.one 10 false [] (xg 83 (.iaddr 1 (.t 81) (.t 82)) 75 true) (.one 11 false [] (xg 84 (.load false 1 (.t 83)) 75 true) (.or 12 false [] (xg 85 (.call Jl [(.t 80),(.t 84)]) 75 true) (.one 13 false [12] (xg 86 (.un .not (.t 85)) 75 true) (.one 14 false [12] (xo 87 (.pick (.t 75) (.t 86) (.c (V.bool false)))) (.done))) (.done)))))))))))))
theorem XN (Jl:Nat):okR (WZ Jl) W2 [] WX = true:=by kernel_rfl
theorem XL (Jl:Nat):Ww (ris (WZ Jl) W2 []) WX = XM Jl:=by kernel_rfl def c_slices_pdqsortOrdered_int (Yt W6 Wj WB Wq Y4 Jl X4 W0 Yg:Nat):AC:=Qo [0,1,2,3,8] (.reg [mc 8 (V.bool true)]) (Qo [0,1,2,3,8,9] (.reg [mc 9 (V.bool true)]) (.block 0 (X1 [0,1,2,3,8,9] (.block 1 (Qo [0,1,2,3,8,9,10] (.reg [mv 19 2,mv 20 1,bn 21 .sub 19 20,mv 10 21]) (Qo [0,1,2,3,8,9,10] (Qo [0,1,2,3,8,9,10,23] (.reg [mv 22 10,bc 23 .leq 22 (V.int 12)]) (.cond (.t 23) (Qo [] (.reg [mv 24 0,mv 25 1,mv 26 2,cl 27 Yt [24,25,26]]) (.ret)) (.skip))) (Qo [0,1,2,3,8,9,10] (Qo [0,1,2,3,8,9,10,29] (.reg [mv 28 3,bc 29 .eql 28 (V.int 0)]) (.cond (.t 29) (Qo [] (.reg [mv 30 0,mv 31 1,mv 32 2,cl 33 W6 [30,31,32]]) (.ret)) (.skip))) (Qo [0,1,2,3,8,9,10] (Qo [0,1,2,3,8,9,10,35] (.reg [mv 34 8,xo 35 (.un .not (.t 34))]) (.cond (.t 35) (Qo [0,1,2,3,8,9,10] (.reg [mv 36 0,mv 37 1,mv 38 2,cl 39 Wj [36,37,38]]) (.reg [mv 40 3,bc 41 .sub 40 (V.int 1),mv 3 41])) (.skip))) (Qo [0,1,2,3,8,9,10,11,12] (.reg [mv 43 0,mv 44 1,mv 45 2,cl 46 WB [43,44,45],mv 42 46,ex 47 42 0,ex 48 42 1,mv 11 47,mv 12 48]) (Qo [0,1,2,3,8,9,10,11,12] (Qo [0,1,2,3,8,9,10,11,12,50] (.reg [mv 49 12,bc 50 .eql 49 (V.int 2)]) (.cond (.t 50) (Qo [0,1,2,3,8,9,10,11] (.reg [mv 51 0,mv 52 1,mv 53 2,cl 54 Wq [51,52,53]]) (Qo [0,1,2,3,8,9,10,11] (.reg [mv 55 2,bc 56 .sub 55 (V.int 1),mv 57 11,mv 58 1,bn 59 .sub 57 58,bn 60 .sub 56 59,mv 11 60]) (.reg [mc 12 (V.int 1)]))) (.skip))) (Qo [0,1,2,3,8,9,10,11] (Qo [0,1,2,3,8,9,10,11,68] (.reg [mv 61 8,mv 62 61,mg 63 9 62 true,xo 64 (.pick (.t 62) (.t 63) (.c (V.bool false))),mv 65 64,mg 66 12 65 true,xg 67 (.bin .eql (.t 66) (.c (V.int 1))) 65 true,xo 68 (.pick (.t 65) (.t 67) (.c (V.bool false)))]) (.cond (.t 68) (Qo [0,1,2,3,8,9,10,11,72] (.reg [mv 69 0,mv 70 1,mv 71 2,cl 72 Y4 [69,70,71]]) (.cond (.t 72) (.ret) (.skip))) (.skip))) (Qo [0,1,2,3,10,11] (Qo [0,1,2,3,8,9,10,11,87] (ach [] WX (XM Jl) (WZ Jl) W2) (.cond (.t 87) (Qo [0,2,3,8,9,13] (.reg [mv 88 0,mv 89 1,mv 90 2,mv 91 11,cl 92 X4 [88,89,90,91],mv 13 92]) (Qo [0,1,2,3,8,9] (.reg [mv 93 13,mv 1 93]) (.exit 1))) (.skip))) (Qo [0,1,2,3,10,14,15] (.reg [mv 95 0,mv 96 1,mv 97 2,mv 98 11,cl 99 W0 [95,96,97,98],mv 94 99,ex 100 94 0,ex 101 94 1,mv 14 100,mv 15 101]) (Qo [0,1,2,3,9,10,14] (.reg [mv 102 15,mv 9 102]) (Qo [0,1,2,3,9,10,14,16,17] (.reg [mv 103 14,mv 104 1,bn 105 .sub 103 104,mv 106 2,mv 107 14,bn 108 .sub 106 107,mv 16 105,mv 17 108]) (Qo [0,1,2,3,9,14,16,17,18] (.reg [mv 109 10,bc 110 .quo 109 (V.int 8),mv 18 110]) (Qo [0,1,2,3,9,14,16,17,18,113] (.reg [mv 111 16,mv 112 17,bn 113 .lss 111 112]) (.cond (.t 113) (Qo [0,1,2,3,8,9,14] (.reg [mv 114 16,mv 115 18,bn 116 .geq 114 115,mv 8 116]) (Qo [0,2,3,8,9,14] (.reg [mv 117 0,mv 118 1,mv 119 14,mv 120 3,cl 121 Yg [117,118,119,120]]) (.reg [mv 122 14,bc 123 .add 122 (V.int 1),mv 1 123]))) (Qo [0,1,2,3,8,9,14] (.reg [mv 124 17,mv 125 18,bn 126 .geq 124 125,mv 8 126]) (Qo [0,1,3,8,9,14] (.reg [mv 127 0,mv 128 14,bc 129 .add 128 (V.int 1),mv 130 2,mv 131 3,cl 132 Yg [127,129,130,131]]) (.reg [mv 133 14,mv 2 133]))))))))))))))))))))) def r_slices_pdqsortOrdered_int:List X0:=[]
def Va (Γ:Env) (f:Nat):Prop:=∀ (xs:List Int) (lim:Int) (hx:xs.length≤12),EvL Γ f [V.int 0,V.int xs.length,V.int lim] 1 (xs.map V.int) (.tup []) (((Uq (fun x y:Int=>decide (x < y)) xs).map V.int))
theorem yj {Γ:Env} {f Yt W6 Wj WB Wq Y4 Jl X4 W0:Nat} (h:Has Γ.P f 134 (c_slices_pdqsortOrdered_int Yt W6 Wj WB Wq Y4 Jl X4 W0 f) r_slices_pdqsortOrdered_int) (Wg:X5 Γ Yt) (Xk:qP Γ Jl):Va Γ f:=by
  intro xs lim hx
  refine jd h (by simp) (by simp only [V.closed,Qn,V.noSl,Jx,and_self,and_true,true_and]) fun C hC hm=>?_
  subst hC
  unfold c_slices_pdqsortOrdered_int
  have hi:=Wg xs 0 xs.length (by omega) (by omega) (by omega)
  rw [ajw] at hi
  have hi0:EvL C.env Yt [V.int 0,V.int xs.length] 1 (xs.map V.int) (.tup []) ((Uq (fun x y:Int=>decide (x < y)) xs).map V.int):=hi
  have hw:IntKind.i64.wrap ((xs.length:Int) - 0) = (xs.length:Int):=by rw [WW (by omega) (by omega)];omega
  have e1:decide ((xs.length:Int)≤12) = true:=by simp;omega
  repeat' (first|refine Qb fun K' hK=>?_|refine Qe fun K' hK=>?_|refine Ql 15 (fun _=>true) rfl (XN _) (XL _) fun K' hK=>?_|refine Qm 15 (fun _=>true) rfl (XN _) (XL _) fun K' hK=>?_|refine Qc ?_|refine Qd ?_|refine Qa ?_|((first|refine Qg ⟨_,rfl,fun hc=>?_,fun hc=>?_⟩|refine Qs (fun hc=>?_) (fun hc=>?_)|refine Qt (fun hc=>?_) (fun hc=>?_))<;>first|(cases hc;done)|((try simp only [znz] at hc);first|exact znf|skip))|refine Qi ?_|refine Qf ?_|simp (maxSteps:=1000000) only [go_sem,XM]|(refine hK _ ?_;clear hK K')|apply And.intro|(apply Ut;(focus exact rfl);(focus first|exact (Wg _ _ _ zsd zsd zsd)|exact (Wf _ _ zsd));(focus exact rfl);(focus (first|(simp;done)|omega|(simp only [List.length_map];omega))))|((first|apply Qv|apply Jm);(focus first|exact (Xk _ _).b))|exact zlo|omega|exact zms)
  refine ajM ?_
  repeat' (first|refine Qb fun K' hK=>?_|refine Qe fun K' hK=>?_|refine Ql 15 (fun _=>true) rfl (XN _) (XL _) fun K' hK=>?_|refine Qm 15 (fun _=>true) rfl (XN _) (XL _) fun K' hK=>?_|refine Qc ?_|refine Qd ?_|refine Qa ?_|((first|refine Qg ⟨_,rfl,fun hc=>?_,fun hc=>?_⟩|refine Qs (fun hc=>?_) (fun hc=>?_)|refine Qt (fun hc=>?_) (fun hc=>?_))<;>first|(cases hc;done)|((try simp only [znz] at hc);first|exact znf|skip))|refine Qi ?_|refine Qf ?_|simp (maxSteps:=1000000) only [go_sem,hw,e1,XM]|(refine hK _ ?_;clear hK K')|apply And.intro|(apply Ut;(focus exact rfl);(focus first|exact hi0|exact (Wg _ _ _ zsd zsd zsd)|exact (Wf _ _ zsd));(focus exact rfl);(focus (first|(simp;done)|omega|(simp only [List.length_map];omega))))|((first|apply Qv|apply Jm);(focus first|exact (Xk _ _).b))|exact zlo|omega|exact zms)
  all_goals first|(refine xi _ rfl rfl (by simp only [go_sem]) ?_;done)|(refine xi _ rfl rfl (by simp only [go_sem]) ?_;rfl)|(refine xi _ rfl rfl (by simp only [go_sem]) ?_<;>first|rfl|(simp;done))
def Ug (Wl Yg:Nat):AC:=Qo [0,2] (.reg [mv 3 0,ln 4 3,mv 2 4]) (.reg [mv 5 0,mv 6 2,mv 7 2,xo 8 (.convI .u64 (.t 7)),cl 9 Wl [8],xo 10 (.call Yg [(.t 5),(.c (V.int 0)),(.t 6),(.t 9)])]) def r_slices_Sort___int_int:List X0:=[]
def VV (Γ:Env) (f:Nat):Prop:=∀ (xs:List Int) (hx:xs.length≤12),EvL Γ f [] 1 (xs.map V.int) (.tup []) (((Uq (fun x y:Int=>decide (x < y)) xs).map V.int))
theorem xT {Γ:Env} {f Wl Yg:Nat} (h:Has Γ.P f 11 (Ug Wl Yg) r_slices_Sort___int_int) (UP:Uu Γ Wl) (Wf:Va Γ Yg):VV Γ f:=by
  intro xs hx
  refine jd h (by simp) (by simp only [V.closed,Qn,V.noSl,Jx,and_self,and_true,true_and]) fun C hC hm=>?_
  subst hC
  unfold Ug
  obtain ⟨lim,hlim⟩:=age UP xs.length hx
  have hi:=Wf xs lim hx
  have e:((xs.map V.int).length:Int) = (xs.length:Int):=by simp
  have hb:=hlim.b
  have hw:IntKind.u64.wrap (xs.length:Int) = (xs.length:Int):=ai2 (by omega) (by omega)
  repeat' (first|refine Qb fun K' hK=>?_|refine Qe fun K' hK=>?_|refine Qc ?_|refine Qd ?_|refine Qa ?_|((first|refine Qg ⟨_,rfl,fun hc=>?_,fun hc=>?_⟩|refine Qs (fun hc=>?_) (fun hc=>?_)|refine Qt (fun hc=>?_) (fun hc=>?_))<;>first|(cases hc;done)|((try simp only [znz] at hc);first|exact znf|skip))|refine Qi ?_|refine Qf ?_|simp (maxSteps:=1000000) only [go_sem,e,hw]|(refine hK _ ?_;clear hK K')|apply And.intro|(apply Ut;(focus exact rfl);(focus first|exact hi|exact (Wf _ _ zsd));(focus exact rfl);(focus (first|(simp;done)|omega|(simp only [List.length_map];omega))))|(apply Qv;(focus first|exact hb|exact (UP _ zsd).b))|exact zlo|omega|exact zms)
  all_goals first|(refine xi _ rfl rfl (by simp only [go_sem]) ?_;done)|(refine xi _ rfl rfl (by simp only [go_sem]) ?_;rfl)
end Av
end
section
set_option linter.unusedSimpArgs false
set_option linter.unusedVariables false
set_option maxRecDepth 10000
set_option maxHeartbeats 4000000
namespace Av
open Go
attribute [local irreducible] AWp WY Vp Vq awS awC V1 awQ Uh Q9 YQ VZ awR YT awB okR Ww ris
def JS.Sz (n:JS):Prop:=n.name.length < 2 ^ 60∧n.lo.length < 2 ^ 60∧n.up.length < 2 ^ 60
def Qu.Sz (p:Qu):Prop:=p.name.length < 2 ^ 60∧p.ver.length < 2 ^ 60∧p.needs.length < 2 ^ 62∧∀ n∈p.needs,n.Sz
def PSz (l:List Qu):Prop:=l.length < 2 ^ 62∧∀ p∈l,p.Sz
def xF (Ur QY:Nat):AC:=Qo [0,4,5] (.reg [xo 4 (.box false 1 (.t 1)),xo 5 (.box false 1 (.t 2)),mc 6 (V.bool false)]) (Qo [6] (.reg [mv 7 0,xo 8 (.mkfn Ur [(.t 4),(.t 5)]),cl 9 QY [7,8],mv 6 9]) (.ret)) def r_packages_any:List X0:=[.tmp 6]
def yW (Γ:Env) (f:Nat):Prop:=∀ (l:List Qu) (g1:Nat) (c1:List V) (g2:Nat) (c2:List V) (p:Qu→Bool) (q:JS→Bool) (hp:∀ x∈l,EvN Γ g1 (x.v :: c1) (V.bool (p x))) (hq:∀ x∈l,∀ y∈x.needs,EvN Γ g2 (y.v :: c2) (V.bool (q y))) (hc1:Qn c1) (hc2:Qn c2) (hl:PSz l),EvN Γ f [.sl 3 (l.map Qu.v),.clo g1 c1,.clo g2 c2] (V.bool (l.any fun x=>p x || x.needs.any q))
theorem aeO {Γ:Env} {f Ur QY:Nat} (h:Has Γ.P f 10 (xF Ur QY) r_packages_any) (w6:jv Γ Ur) (Qw:JT Γ QY):yW Γ f:=by
  intro l g1 c1 g2 c2 p q hp hq hc1 hc2 hl
  refine QQ h (by simp) (by simp only [V.closed,Qn,V.noSl,Jx,and_self,and_true,true_and]) (by simp only [V.closed,Qn,V.noSl,Jx,and_self,and_true,true_and]) fun C hC hm=>?_
  subst hC
  unfold xF
  have s1:∀ o,Wy o c1 = c1:=fun o=>YW o c1 hc1
  have s2:∀ o B,JU o B c1 = True:=fun o B=>eq_true (Yo o B c1 hc1)
  have s3:∀ o,Wy o c2 = c2:=fun o=>YW o c2 hc2
  have s4:∀ o B,JU o B c2 = True:=fun o B=>eq_true (Yo o B c2 hc2)
  have s5:Qn c1 = True:=eq_true hc1
  have s6:Qn c2 = True:=eq_true hc2
  have hi:=(Qw l Ur [.ro [.clo g1 c1] 0,.ro [.clo g2 c2] 0] (fun x=>p x || x.needs.any q) (fun x hx=>w6 x g1 c1 g2 c2 p q (hp x hx) (hq x hx) hc1 hc2 (hl.2 x hx).2.2.1) (by simp only [Qn,V.closed,s5,s6,and_self]) hl.1).b
  repeat' (first|refine Qb fun K' hK=>?_|refine Qe fun K' hK=>?_|refine Qc ?_|refine Qd ?_|refine Qa ?_|((first|refine Qg ⟨_,rfl,fun hc=>?_,fun hc=>?_⟩|refine Qs (fun hc=>?_) (fun hc=>?_)|refine Qt (fun hc=>?_) (fun hc=>?_))<;>first|(cases hc;done)|((try simp only [znz] at hc);first|exact znf|skip))|refine Qi ?_|refine Qf ?_|simp (maxSteps:=1000000) only [go_sem,s1,s2,s3,s4,s5,s6]|(refine hK _ ?_;clear hK K')|apply And.intro|(apply Qv;(focus first|exact hi|exact (w6 _ _ _ _ _ _ _ zsd zsd zsd zsd zsd).b|exact (Qw _ _ _ _ zsd zsd zsd).b))|exact zlo|omega|exact zms)
  all_goals first|(refine QM _ rfl ?_;simp only [go_sem];done)
def jg:AC:=Qo [1,2] (.reg [xo 2 (.box true 3 (.t 0)),mc 3 (V.bool false)]) (Qo [3] (.reg [fa 4 0 2,ld 5 1 4,ld 6 1 1,bn 7 .eql 5 6,mv 3 7]) (.ret)) def r_packages_find_1:List X0:=[.tmp 3]
def qK (Γ:Env) (f:Nat):Prop:=∀ (p:Qu) (n:List UInt8),EvN Γ f [p.v,.ro [V.str n] 0] (V.bool (p.name == n))
theorem abQ {Γ:Env} {f:Nat} (h:Has Γ.P f 8 jg r_packages_find_1) :qK Γ f:=by
  intro p n
  refine QQ h (by simp) (by simp only [V.closed,Qn,V.noSl,Jx,and_self,and_true,true_and]) (by simp only [V.closed,Qn,V.noSl,Jx,and_self,and_true,true_and]) fun C hC hm=>?_
  subst hC
  unfold jg
  repeat' (first|refine Qb fun K' hK=>?_|refine Qe fun K' hK=>?_|refine Qc ?_|refine Qd ?_|refine Qa ?_|((first|refine Qg ⟨_,rfl,fun hc=>?_,fun hc=>?_⟩|refine Qs (fun hc=>?_) (fun hc=>?_)|refine Qt (fun hc=>?_) (fun hc=>?_))<;>first|(cases hc;done)|((try simp only [znz] at hc);first|exact znf|skip))|refine Qi ?_|refine Qf ?_|simp (maxSteps:=1000000) only [go_sem,Qu.v,Qu.cells]|(refine hK _ ?_;clear hK K')|apply And.intro|exact zlo|omega|exact zms)
  all_goals first|(refine QM _ rfl ?_;simp only [go_sem];done)
def Vn (l:List Qu) (n:List UInt8):Int:=abi (fun p:Qu=>p.name == n) 0 l
def yG (VO Q1:Nat):AC:=Qo [0,3] (.reg [xo 3 (.box false 1 (.t 1)),mc 4 (V.int 0)]) (Qo [4] (.reg [mv 5 0,xo 6 (.mkfn VO [(.t 3)]),cl 7 Q1 [5,6],mv 4 7]) (.ret)) def r_packages_find:List X0:=[.tmp 4]
def KA (Γ:Env) (f:Nat):Prop:=∀ (l:List Qu) (n:List UInt8) (hl:l.length < 2 ^ 62),EvN Γ f [.sl 3 (l.map Qu.v),V.str n] (V.int (Vn l n))
theorem adM {Γ:Env} {f VO Q1:Nat} (h:Has Γ.P f 8 (yG VO Q1) r_packages_find) (xS:qK Γ VO) (JH:J4 Γ Q1):KA Γ f:=by
  intro l n hl
  refine QQ h (by simp) (by simp only [V.closed,Qn,V.noSl,Jx,and_self,and_true,true_and]) (by simp only [V.closed,Qn,V.noSl,Jx,and_self,and_true,true_and]) fun C hC hm=>?_
  subst hC
  unfold yG
  have hi:=(JH l VO [.ro [V.str n] 0] (fun p=>p.name == n) (fun x _=>xS x n) (by simp [Qn,V.closed]) hl).b
  unfold Vn
  repeat' (first|refine Qb fun K' hK=>?_|refine Qe fun K' hK=>?_|refine Qc ?_|refine Qd ?_|refine Qa ?_|((first|refine Qg ⟨_,rfl,fun hc=>?_,fun hc=>?_⟩|refine Qs (fun hc=>?_) (fun hc=>?_)|refine Qt (fun hc=>?_) (fun hc=>?_))<;>first|(cases hc;done)|((try simp only [znz] at hc);first|exact znf|skip))|refine Qi ?_|refine Qf ?_|simp (maxSteps:=1000000) only [go_sem]|(refine hK _ ?_;clear hK K')|apply And.intro|(apply Qv;(focus first|exact hi|exact (xS _ _).b|exact (JH _ _ _ _ zsd zsd zsd).b))|exact zlo|omega|exact zms)
  all_goals first|(refine QM _ rfl ?_;simp only [go_sem];done)
def KN (l:List Qu) (n:JS):Int:=match l[(Vn l n.name).toNat]? with
  | some p=>if decide (Vn l n.name≥0) && inV n.lo n.up p.ver then Vn l n.name else -1
  | none=>-1
theorem acF {α:Type} (p:α→Bool):∀ (xs:List α) (k:Nat),0≤abi p k xs→∃ j x,abi p k xs = ((k + j:Nat):Int)∧xs[j]? = some x∧p x = true
  | [],k,h=>by simp [abi] at h
  | x :: r,k,h=>by
    unfold abi at h ⊢
    by_cases hx:p x = true
    · rw [if_pos hx] at h ⊢;exact ⟨0,x,by simp,rfl,hx⟩
    · rw [if_neg hx] at h ⊢
      obtain ⟨j,y,h1,h2,h3⟩:=acF p r (k + 1) h
      exact ⟨j + 1,y,by rw [h1];congr 1;omega,by simpa using h2,h3⟩
def jR (Jc:Nat):List AO:=[mv 10 5,bc 11 .geq 10 (V.int 0),mv 12 11,xg 13 (.faddr 1 (.t 3)) 12 true,xg 14 (.load true 2 (.t 13)) 12 true,mg 15 0 12 true,mg 16 5 12 true,xg 17 (.iaddr 3 (.t 15) (.t 16)) 12 true,xg 18 (.faddr 1 (.t 17)) 12 true,xg 19 (.load false 1 (.t 18)) 12 true,xg 20 (.call Jc [(.t 14),(.t 19)]) 12 true,xo 21 (.pick (.t 12) (.t 20) (.c (V.bool false)))]
def j1:List (List Nat):=[[],[0],[1],[2],[3,2],[2],[2],[5,6,2],[7,2],[8,2],[4,9,2,2],[2,10]]
def jP:OT:=.one 0 (.one 1 (.one 2 (.one 3 (.one 4 (.one 5 (.one 6 (.one 7 (.one 8 (.one 9 (.one 10 (.one 11 (.done))))))))))))
def Um (Jc:Nat):OP:=.one 0 false [] (mv 10 5) (.one 1 false [] (bc 11 .geq 10 (V.int 0)) (.one 2 false [] (mv 12 11) (.one 3 false [] (xg 13 (.faddr 1 (.t 3)) 12 true) (.one 4 false [] (xg 14 (.load true 2 (.t 13)) 12 true) (.one 5 false [] (mg 15 0 12 true) (.one 6 false [] (mg 16 5 12 true) (.one 7 false [] (xg 17 (.iaddr 3 (.t 15) (.t 16)) 12 true) (.one 8 false [] (xg 18 (.faddr 1 (.t 17)) 12 true) (.one 9 false [] (xg 19 (.load false 1 (.t 18)) 12 true) (.one 10 false [] (xg 20 (.call Jc [(.t 14),(.t 19)]) 12 true) (.one 11 false [10] (xo 21 (.pick (.t 12) (.t 20) (.c (V.bool false)))) (.done))))))))))))
theorem Vt (Jc:Nat):okR (jR Jc) j1 [] jP = true:=by kernel_rfl
theorem Vs (Jc:Nat):Ww (ris (jR Jc) j1 []) jP = Um Jc:=by kernel_rfl def c_packages_met (Wk Jc:Nat):AC:=Qo [0,3] (.reg [xo 3 (.box true 3 (.t 1)),mc 4 (V.int 0)]) (Qo [] (Qo [0,3,5] (.reg [mv 6 0,fa 7 0 3,ld 8 1 7,cl 9 Wk [6,8],mv 5 9]) (Qo [5,21] (ach [] jP (Um Jc) (jR Jc) j1) (.cond (.t 21) (Qo [4] (.reg [mv 22 5,mv 4 22]) (.ret)) (.skip)))) (Qo [4] (.reg [mc 4 (V.int (-1))]) (.ret))) def r_packages_met:List X0:=[.tmp 4]
def qJ (Γ:Env) (f:Nat):Prop:=∀ (l:List Qu) (n:JS) (hl:PSz l) (hn:n.Sz),EvN Γ f [.sl 3 (l.map Qu.v),n.v] (V.int (KN l n))
theorem aeN {Γ:Env} {f Wk Jc:Nat} (h:Has Γ.P f 23 (c_packages_met Wk Jc) r_packages_met) (Wh:KA Γ Wk) (J0:Kw Γ Jc):qJ Γ f:=by
  intro l n hl hn
  refine QQ h (by simp) (by simp only [V.closed,Qn,V.noSl,Jx,and_self,and_true,true_and]) (by simp only [V.closed,Qn,V.noSl,Jx,and_self,and_true,true_and]) fun C hC hm=>?_
  subst hC
  unfold c_packages_met
  have hi:=(Wh l n.name hl.1).b
  by_cases h0:0≤Vn l n.name
  · obtain ⟨j,x,h1,hget,_⟩:=acF (fun p:Qu=>p.name == n.name) l 0 h0
    have h1:Vn l n.name = (j:Int):=by rw [Vn,h1];simp
    have hx:=hl.2 x (List.mem_of_getElem? hget)
    have g:=(J0 n.lo n.up x.ver hn.2.1 hn.2.2 hx.2.1).b
    have hm:KN l n = if inV n.lo n.up x.ver then (j:Int) else -1:=by
      unfold KN;rw [h1,Int.toNat_natCast,hget];simp
    rw [hm]
    rw [h1] at hi
    simp only [ye] at g
    have e1:decide ((j:Int)≥0) = true:=by simp
    rcases hv:inV n.lo n.up x.ver with _|_
    · rw [hv] at g
      repeat' (first|refine Qb fun K' hK=>?_|refine Qe fun K' hK=>?_|refine Ql 12 (fun _=>true) rfl (Vt _) (Vs _) fun K' hK=>?_|refine Qm 12 (fun _=>true) rfl (Vt _) (Vs _) fun K' hK=>?_|refine Qc ?_|refine Qd ?_|refine Qa ?_|((first|refine Qg ⟨_,rfl,fun hc=>?_,fun hc=>?_⟩|refine Qs (fun hc=>?_) (fun hc=>?_)|refine Qt (fun hc=>?_) (fun hc=>?_))<;>first|(cases hc;done)|((try simp only [znz] at hc);first|exact znf|skip))|refine Qi ?_|refine Qf ?_|simp (maxSteps:=1000000) only [go_sem,JS.v,JS.cells,Qu.v,Qu.cells,e1,Int.toNat_natCast,List.getElem?_map,hget,Um]|(refine hK _ ?_;clear hK K')|apply And.intro|((first|apply Qv|apply Jm);(focus first|exact hi|exact g|exact (Wh _ _ zsd).b|exact (J0 _ _ _ zsd zsd zsd).b))|exact zlo|omega|exact zms)
      all_goals first|(refine QM _ rfl ?_;simp only [go_sem];done)
    · rw [hv] at g
      repeat' (first|refine Qb fun K' hK=>?_|refine Qe fun K' hK=>?_|refine Ql 12 (fun _=>true) rfl (Vt _) (Vs _) fun K' hK=>?_|refine Qm 12 (fun _=>true) rfl (Vt _) (Vs _) fun K' hK=>?_|refine Qc ?_|refine Qd ?_|refine Qa ?_|((first|refine Qg ⟨_,rfl,fun hc=>?_,fun hc=>?_⟩|refine Qs (fun hc=>?_) (fun hc=>?_)|refine Qt (fun hc=>?_) (fun hc=>?_))<;>first|(cases hc;done)|((try simp only [znz] at hc);first|exact znf|skip))|refine Qi ?_|refine Qf ?_|simp (maxSteps:=1000000) only [go_sem,JS.v,JS.cells,Qu.v,Qu.cells,e1,Int.toNat_natCast,List.getElem?_map,hget,Um]|(refine hK _ ?_;clear hK K')|apply And.intro|((first|apply Qv|apply Jm);(focus first|exact hi|exact g|exact (Wh _ _ zsd).b|exact (J0 _ _ _ zsd zsd zsd).b))|exact zlo|omega|exact zms)
      all_goals first|(refine QM _ rfl ?_;simp only [go_sem];done)
  · have e1:decide (Vn l n.name≥0) = false:=by simp;omega
    have hm:KN l n = -1:=by
      unfold KN;split
      · rw [e1];rfl
      · rfl
    rw [hm]
    repeat' (first|refine Qb fun K' hK=>?_|refine Qe fun K' hK=>?_|refine Ql 12 (fun _=>true) rfl (Vt _) (Vs _) fun K' hK=>?_|refine Qm 12 (fun _=>true) rfl (Vt _) (Vs _) fun K' hK=>?_|refine Qc ?_|refine Qd ?_|refine Qa ?_|((first|refine Qg ⟨_,rfl,fun hc=>?_,fun hc=>?_⟩|refine Qs (fun hc=>?_) (fun hc=>?_)|refine Qt (fun hc=>?_) (fun hc=>?_))<;>first|(cases hc;done)|((try simp only [znz] at hc);first|exact znf|skip))|refine Qi ?_|refine Qf ?_|simp (maxSteps:=1000000) only [go_sem,JS.v,JS.cells,e1,Um]|(refine hK _ ?_;clear hK K')|apply And.intro|((first|apply Qv|apply Jm);(focus first|exact hi|exact (Wh _ _ zsd).b|exact (J0 _ _ _ zsd zsd zsd).b))|exact zlo|omega|exact zms)
    all_goals first|(refine QM _ rfl ?_;simp only [go_sem];done)
def Kg (WL:Nat):AC:=Qo [1,2] (.reg [xo 2 (.box true 3 (.t 0)),mc 3 (V.bool false)]) (Qo [3] (.reg [ld 4 1 1,xo 5 (.load true 3 (.t 2)),cl 6 WL [4,5],bc 7 .lss 6 (V.int 0),mv 3 7]) (.ret)) def r_packages_Missing_1:List X0:=[.tmp 3]
def UZ (Γ:Env) (f:Nat):Prop:=∀ (n:JS) (l:List Qu) (hl:PSz l) (hn:n.Sz),EvN Γ f [n.v,.ro [.sl 3 (l.map Qu.v)] 0] (V.bool (decide (KN l n < 0)))
theorem vD {Γ:Env} {f WL:Nat} (h:Has Γ.P f 8 (Kg WL) r_packages_Missing_1) (YV:qJ Γ WL):UZ Γ f:=by
  intro n l hl hn
  refine QQ h (by simp) (by simp only [V.closed,Qn,V.noSl,Jx,and_self,and_true,true_and]) (by simp only [V.closed,Qn,V.noSl,Jx,and_self,and_true,true_and]) fun C hC hm=>?_
  subst hC
  unfold Kg
  have g:=(YV l n hl hn).b
  simp only [JS.v,JS.cells] at g
  repeat' (first|refine Qb fun K' hK=>?_|refine Qe fun K' hK=>?_|refine Qc ?_|refine Qd ?_|refine Qa ?_|((first|refine Qg ⟨_,rfl,fun hc=>?_,fun hc=>?_⟩|refine Qs (fun hc=>?_) (fun hc=>?_)|refine Qt (fun hc=>?_) (fun hc=>?_))<;>first|(cases hc;done)|((try simp only [znz] at hc);first|exact znf|skip))|refine Qi ?_|refine Qf ?_|simp (maxSteps:=1000000) only [go_sem,JS.v,JS.cells]|(refine hK _ ?_;clear hK K')|apply And.intro|(apply Qv;(focus first|exact g|exact (YV _ _ zsd zsd).b))|exact zlo|omega|exact zms)
  all_goals first|(refine QM _ rfl ?_;simp only [go_sem];done)
end Av
end
