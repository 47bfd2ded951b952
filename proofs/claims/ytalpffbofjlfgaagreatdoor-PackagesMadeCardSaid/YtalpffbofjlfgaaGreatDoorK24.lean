/- K24 -/
import Derived.Test.YtalpffbofjlfgaaGreatDoorK23
set_option linter.unusedVariables false
set_option linter.unusedSimpArgs false
section
set_option linter.unusedSimpArgs false
set_option linter.unusedVariables false
set_option maxRecDepth 10000
set_option maxHeartbeats 4000000
namespace Av
open Go
attribute [local irreducible] AWp WY Vp Vq awS awC V1 awQ Uh Q9 YQ VZ awR YT awB okR Ww ris
theorem yO {α:Type} {p:α→Bool} {l r:List α} {k:Nat} {x:α} (h:l.drop k = x :: r):(l.drop k).any p = (p x || (l.drop (k + 1)).any p):=by
  obtain ⟨_,_,hr⟩:=Yy h
  rw [h,List.any_cons,hr]
def vL:AC:=Qo [0] (.reg [mc 2 (V.bool false)]) (Qo [0] (Qo [0,11] (.reg [mv 4 0,xo 5 (.lenS (.t 4)),bc 6 .lss 5 (V.int 1),mv 7 6,mg 8 0 7 false,xg 9 (.lenS (.t 8)) 7 false,xg 10 (.bin .gtr (.t 9) (.c (V.int 32))) 7 false,xo 11 (.pick (.t 7) (.c (V.bool true)) (.t 10))]) (.cond (.t 11) (Qo [2] (.reg [mc 2 (V.bool false)]) (.ret)) (.skip))) (Qo [] (Qo [0,3] (.reg [mc 3 (V.int 0)]) (.block 0 (X1 [0,3] (Qo [0,3] (Qo [0,3,15] (.reg [mv 12 3,mv 13 0,xo 14 (.lenS (.t 13)),bn 15 .lss 12 14]) (.cond (.t 15) (.skip) (.exit 0))) (Qo [0,3] (.block 1 (Qo [0,3,27] (.reg [mv 18 0,mv 19 3,xo 20 (.idxS (.t 18) (.t 19)),bc 21 .lss 20 (.sc (.int .u8 33)),mv 22 21,mg 23 0 22 false,mg 24 3 22 false,xg 25 (.idxS (.t 23) (.t 24)) 22 false,xg 26 (.bin .gtr (.t 25) (.c (.sc (.int .u8 126)))) 22 false,xo 27 (.pick (.t 22) (.c (V.bool true)) (.t 26))]) (.cond (.t 27) (Qo [2] (.reg [mc 2 (V.bool false)]) (.ret)) (.skip)))) (.reg [mv 16 3,bc 17 .add 16 (V.int 1),mv 3 17])))))) (Qo [2] (.reg [mc 2 (V.bool true)]) (.ret)))) def r_ref03_Name:List X0:=[.tmp 2]
def wV (Γ:Env) (f:Nat):Prop:=∀ (s:List UInt8) (hs:s.length < 2 ^ 60),EvN Γ f [V.str s] (V.bool (Xs s))
theorem agK {Γ:Env} {f:Nat} (h:Has Γ.P f 28 vL r_ref03_Name) :wV Γ f:=by
  intro s hs
  refine QQ h (by simp) (by simp only [V.closed,Qn,V.noSl,Jx,and_self,and_true,true_and]) (by simp only [V.closed,Qn,V.noSl,Jx,and_self,and_true,true_and]) fun C hC hm=>?_
  subst hC
  unfold vL
  by_cases h0:s.length < 1
  · have e1:decide ((s.length:Int) < 1) = true:=decide_eq_true (by omega)
    have e2:Xs s = false:=by unfold Xs;rw [decide_eq_false (by omega:¬ (s.length:Int)≥1)];simp
    rw [e2]
    repeat' (first|refine Qb fun K' hK=>?_|refine Qe fun K' hK=>?_|refine Qc ?_|refine Qd ?_|refine Qa ?_|((first|refine Qg ⟨_,rfl,fun hc=>?_,fun hc=>?_⟩|refine Qs (fun hc=>?_) (fun hc=>?_)|refine Qt (fun hc=>?_) (fun hc=>?_))<;>first|(cases hc;done)|((try simp only [znz] at hc);first|exact znf|skip))|refine Qi ?_|refine Qf ?_|simp (maxSteps:=1000000) only [go_sem,e1]|(refine hK _ ?_;clear hK K')|apply And.intro|exact zlo|omega|exact zms)
    all_goals first|(refine QM _ rfl ?_;simp only [go_sem];done)
  have e1:decide ((s.length:Int) < 1) = false:=decide_eq_false (by omega)
  by_cases h1:s.length > 32
  · have e3:decide ((s.length:Int) > 32) = true:=decide_eq_true (by omega)
    have e2:Xs s = false:=by unfold Xs;rw [decide_eq_false (by omega:¬ (s.length:Int)≤32)];simp
    rw [e2]
    repeat' (first|refine Qb fun K' hK=>?_|refine Qe fun K' hK=>?_|refine Qc ?_|refine Qd ?_|refine Qa ?_|((first|refine Qg ⟨_,rfl,fun hc=>?_,fun hc=>?_⟩|refine Qs (fun hc=>?_) (fun hc=>?_)|refine Qt (fun hc=>?_) (fun hc=>?_))<;>first|(cases hc;done)|((try simp only [znz] at hc);first|exact znf|skip))|refine Qi ?_|refine Qf ?_|simp (maxSteps:=1000000) only [go_sem,e1,e3]|(refine hK _ ?_;clear hK K')|apply And.intro|exact zlo|omega|exact zms)
    all_goals first|(refine QM _ rfl ?_;simp only [go_sem];done)
  have e3:decide ((s.length:Int) > 32) = false:=decide_eq_false (by omega)
  have e2:Xs s = !s.any aae:=by unfold Xs;rw [decide_eq_true (by omega:(s.length:Int)≤32),decide_eq_true (by omega:(s.length:Int)≥1)];simp
  rw [e2]
  repeat' (first|refine Qb fun K' hK=>?_|refine Qe fun K' hK=>?_|refine Qc ?_|refine Qd ?_|refine Qa ?_|((first|refine Qg ⟨_,rfl,fun hc=>?_,fun hc=>?_⟩|refine Qs (fun hc=>?_) (fun hc=>?_)|refine Qt (fun hc=>?_) (fun hc=>?_))<;>first|(cases hc;done)|((try simp only [znz] at hc);first|exact znf|skip))|refine Qi ?_|refine Qf ?_|simp (maxSteps:=1000000) only [go_sem,e1,e3]|(refine hK _ ?_;clear hK K')|apply And.intro|exact zlo|omega|exact zms)
  refine Xf (ι:=Nat) (fun k=>k≤s.length∧(s.drop k).any aae = s.any aae) (fun k=>[(3,V.int k)]) (fun k=>s.length - k) 0 (by omega) ⟨by simp,by simp⟩ (by repeat' first|exact We|refine Vk (by omega) (by simp only [Ob.lt,ltL,V.lt,and_self,and_true];try omega) ?_) (fun i hi=>by simp only [ovT,J5,Nat.reduceEqDiff,reduceIte];(repeat' first|exact Vj|refine Wd ?_ ?_|simp only [V.lt,ltL,and_self,and_true]|omega)) (by simp only [Nat.reduceAdd,ovT,J5,Nat.reduceEqDiff,reduceIte,JA,JW,qV,u32,u33,u34,u35,u36,u37,u38,u39,and_self,and_true,true_and];first|done|rfl) fun k hk K' hL=>?_
  obtain ⟨hk,hinv⟩:=hk
  simp only [ovT,J5,Nat.reduceEqDiff,reduceIte]
  rcases hd:s.drop k with _|⟨c,r⟩
  · have:=Xx hd
    rw [hd] at hinv
    have e4:decide ((k:Int) < ((s.length:Nat):Int)) = false:=by simp;omega
    rw [← hinv]
    repeat' (first|refine Qb fun K' hK=>?_|refine Qe fun K' hK=>?_|refine Qc ?_|refine Qd ?_|refine Qa ?_|((first|refine Qg ⟨_,rfl,fun hc=>?_,fun hc=>?_⟩|refine Qs (fun hc=>?_) (fun hc=>?_)|refine Qt (fun hc=>?_) (fun hc=>?_))<;>first|(cases hc;done)|((try simp only [znz] at hc);first|exact znf|skip))|refine Qi ?_|refine Qf ?_|simp (maxSteps:=1000000) only [go_sem,e4]|(refine hK _ ?_;clear hK K')|apply And.intro|exact zlo|omega|exact zms)
    all_goals first|(refine QM _ rfl ?_;simp only [go_sem];done)|(refine QM _ rfl ?_;simp only [go_sem];simp;done)
  · obtain ⟨hk',hget,hr⟩:=Yy hd
    have hst:=yO (p:=aae) hd
    rw [hinv] at hst
    have hw:=Jq (k:=k) (by omega)
    have e4:decide ((k:Int) < ((s.length:Nat):Int)) = true:=by simp;omega
    have e5:decide ((c.toNat:Int) < 33) = decide ((c.toNat:Int)≤32):=decide_eq_decide.2 (by omega)
    rcases h2:decide ((c.toNat:Int)≤32) with _|_
    · rcases h3:decide ((c.toNat:Int) > 126) with _|_
      · have hb:aae c = false:=by unfold aae;rw [h2,h3];rfl
        rw [hb,Bool.false_or] at hst
        repeat' (first|refine Qb fun K' hK=>?_|refine Qe fun K' hK=>?_|refine Qc ?_|refine Qd ?_|refine Qa ?_|((first|refine Qg ⟨_,rfl,fun hc=>?_,fun hc=>?_⟩|refine Qs (fun hc=>?_) (fun hc=>?_)|refine Qt (fun hc=>?_) (fun hc=>?_))<;>first|(cases hc;done)|((try simp only [znz] at hc);first|exact znf|skip))|refine Qi ?_|refine Qf ?_|simp (maxSteps:=1000000) only [go_sem,e4,hw,Int.toNat_natCast,hget,e5,h2,h3]|(refine hK _ ?_;clear hK K')|apply And.intro|exact zlo|omega|exact zms)
        all_goals first
          | exact hL _ (k + 1) (by simp only [Nat.reduceAdd,ovT,J5,Nat.reduceEqDiff,reduceIte,JA,JW,qV,u32,u33,u34,u35,u36,u37,u38,u39,and_self,and_true,true_and]) ⟨by omega,hst.symm⟩ (by omega) (fun a ha=>by simp only [u32,u33,u34,u35,u36,u37,u38,u39];repeat rw [if_neg (by omega)])
      · have hb:aae c = true:=by unfold aae;rw [h3,Bool.or_true]
        rw [hb,Bool.true_or] at hst
        rw [hst]
        repeat' (first|refine Qb fun K' hK=>?_|refine Qe fun K' hK=>?_|refine Qc ?_|refine Qd ?_|refine Qa ?_|((first|refine Qg ⟨_,rfl,fun hc=>?_,fun hc=>?_⟩|refine Qs (fun hc=>?_) (fun hc=>?_)|refine Qt (fun hc=>?_) (fun hc=>?_))<;>first|(cases hc;done)|((try simp only [znz] at hc);first|exact znf|skip))|refine Qi ?_|refine Qf ?_|simp (maxSteps:=1000000) only [go_sem,e4,hw,Int.toNat_natCast,hget,e5,h2,h3]|(refine hK _ ?_;clear hK K')|apply And.intro|exact zlo|omega|exact zms)
        all_goals first|(refine QM _ rfl ?_;simp only [go_sem];done)
    · have hb:aae c = true:=by unfold aae;rw [h2,Bool.true_or]
      rw [hb,Bool.true_or] at hst
      rw [hst]
      repeat' (first|refine Qb fun K' hK=>?_|refine Qe fun K' hK=>?_|refine Qc ?_|refine Qd ?_|refine Qa ?_|((first|refine Qg ⟨_,rfl,fun hc=>?_,fun hc=>?_⟩|refine Qs (fun hc=>?_) (fun hc=>?_)|refine Qt (fun hc=>?_) (fun hc=>?_))<;>first|(cases hc;done)|((try simp only [znz] at hc);first|exact znf|skip))|refine Qi ?_|refine Qf ?_|simp (maxSteps:=1000000) only [go_sem,e4,hw,Int.toNat_natCast,hget,e5,h2]|(refine hK _ ?_;clear hK K')|apply And.intro|exact zlo|omega|exact zms)
      all_goals first|(refine QM _ rfl ?_;simp only [go_sem];done)
def KJ:List AO:=[mv 17 0,mv 18 5,ia 19 1 17 18,ld 20 1 19,mv 21 1,mv 22 5,ia 23 1 21 22,ld 24 1 23,bn 25 .neq 20 24]
def KR:List (List Nat):=[[],[],[0,1],[2],[],[],[4,5],[6],[3,7]]
def KE:OT:=.one 0 (.one 1 (.one 2 (.one 3 (.one 4 (.one 5 (.one 6 (.one 7 (.one 8 (.done)))))))))
def Vh:OP:=.one 0 false [] (mv 17 0) (.one 1 false [] (mv 18 5) (.one 2 false [] (ia 19 1 17 18) (.one 3 false [] (ld 20 1 19) (.one 4 false [] (mv 21 1) (.one 5 false [] (mv 22 5) (.one 6 false [] (ia 23 1 21 22) (.one 7 false [] (ld 24 1 23) (.one 8 false [] (bn 25 .neq 20 24) (.done)))))))))
theorem WA:okR (KJ) KR [] KE = true:=by kernel_rfl
theorem Wz:Ww (ris (KJ) KR []) KE = Vh:=by kernel_rfl def c_ref02_SameTexts:AC:=Qo [0,1] (.reg [mc 4 (V.bool false)]) (Qo [0,1] (Qo [0,1,10] (.reg [mv 6 0,ln 7 6,mv 8 1,ln 9 8,bn 10 .neq 7 9]) (.cond (.t 10) (Qo [4] (.reg [mc 4 (V.bool false)]) (.ret)) (.skip))) (Qo [] (Qo [0,1,5] (.reg [mc 5 (V.int 0)]) (.block 0 (X1 [0,1,5] (Qo [0,1,5] (Qo [0,1,5,14] (.reg [mv 11 5,mv 12 0,ln 13 12,bn 14 .lss 11 13]) (.cond (.t 14) (.skip) (.exit 0))) (Qo [0,1,5] (.block 1 (Qo [0,1,5,25] (ach [] KE (Vh) (KJ) KR) (.cond (.t 25) (Qo [4] (.reg [mc 4 (V.bool false)]) (.ret)) (.skip)))) (.reg [mv 15 5,bc 16 .add 15 (V.int 1),mv 5 16])))))) (Qo [4] (.reg [mc 4 (V.bool true)]) (.ret)))) def r_ref02_SameTexts:List X0:=[.tmp 4]
def qI (Γ:Env) (f:Nat):Prop:=∀ (a:List (List UInt8)) (ha:a.length < 2 ^ 60),EvN Γ f [.sl 1 (a.map V.str),.sl 1 (a.map V.str)] (V.bool true)
theorem abO {Γ:Env} {f:Nat} (h:Has Γ.P f 26 c_ref02_SameTexts r_ref02_SameTexts) :qI Γ f:=by
  intro a ha
  refine QQ h (by simp) (by simp only [V.closed,Qn,V.noSl,Jx,and_self,and_true,true_and]) (by simp only [V.closed,Qn,V.noSl,Jx,and_self,and_true,true_and]) fun C hC hm=>?_
  subst hC
  unfold c_ref02_SameTexts
  have ham:(a.map V.str).length = a.length:=List.length_map _
  have e0:((a.length:Int) != (a.length:Int)) = false:=by simp
  repeat' (first|refine Qb fun K' hK=>?_|refine Qe fun K' hK=>?_|refine Ql 9 (fun _=>true) rfl (WA) (Wz) fun K' hK=>?_|refine Qm 9 (fun _=>true) rfl (WA) (Wz) fun K' hK=>?_|refine Qc ?_|refine Qd ?_|refine Qa ?_|((first|refine Qg ⟨_,rfl,fun hc=>?_,fun hc=>?_⟩|refine Qs (fun hc=>?_) (fun hc=>?_)|refine Qt (fun hc=>?_) (fun hc=>?_))<;>first|(cases hc;done)|((try simp only [znz] at hc);first|exact znf|skip))|refine Qi ?_|refine Qf ?_|simp (maxSteps:=1000000) only [go_sem,ham,e0,Vh]|(refine hK _ ?_;clear hK K')|apply And.intro|exact zlo|omega|exact zms)
  refine Xf (ι:=Nat) (fun k=>k≤a.length) (fun k=>[(5,V.int k)]) (fun k=>a.length - k) 0 (by omega) (by omega) (by repeat' first|exact We|refine Vk (by omega) (by simp only [Ob.lt,ltL,V.lt,and_self,and_true];try omega) ?_) (fun i hi=>by simp only [ovT,J5,Nat.reduceEqDiff,reduceIte];(repeat' first|exact Vj|refine Wd ?_ ?_|simp only [V.lt,ltL,and_self,and_true]|omega)) (by simp only [Nat.reduceAdd,ovT,J5,Nat.reduceEqDiff,reduceIte,JA,JW,qV,u32,u33,u34,u35,u36,u37,u38,u39,and_self,and_true,true_and];first|done|rfl) fun k hk K' hL=>?_
  simp only [ovT,J5,Nat.reduceEqDiff,reduceIte]
  by_cases hke:k = a.length
  · have e4:decide ((k:Int) < ((a.length:Nat):Int)) = false:=decide_eq_false (by omega)
    repeat' (first|refine Qb fun K' hK=>?_|refine Qe fun K' hK=>?_|refine Ql 9 (fun _=>true) rfl (WA) (Wz) fun K' hK=>?_|refine Qm 9 (fun _=>true) rfl (WA) (Wz) fun K' hK=>?_|refine Qc ?_|refine Qd ?_|refine Qa ?_|((first|refine Qg ⟨_,rfl,fun hc=>?_,fun hc=>?_⟩|refine Qs (fun hc=>?_) (fun hc=>?_)|refine Qt (fun hc=>?_) (fun hc=>?_))<;>first|(cases hc;done)|((try simp only [znz] at hc);first|exact znf|skip))|refine Qi ?_|refine Qf ?_|simp (maxSteps:=1000000) only [go_sem,ham,e4,Vh]|(refine hK _ ?_;clear hK K')|apply And.intro|exact zlo|omega|exact zms)
    all_goals first|(refine QM _ rfl ?_;simp only [go_sem];done)
  · have e4:decide ((k:Int) < ((a.length:Nat):Int)) = true:=decide_eq_true (by omega)
    have hw:=Jq (k:=k) (by omega)
    obtain ⟨s,hs⟩:∃ s,a[k]? = some s:=⟨a[k],List.getElem?_eq_getElem (by omega)⟩
    have vs:(a.map V.str)[k]? = some (V.str s):=by rw [List.getElem?_map,hs];rfl
    have ee:(s != s) = false:=by simp
    repeat' (first|refine Qb fun K' hK=>?_|refine Qe fun K' hK=>?_|refine Ql 9 (fun _=>true) rfl (WA) (Wz) fun K' hK=>?_|refine Qm 9 (fun _=>true) rfl (WA) (Wz) fun K' hK=>?_|refine Qc ?_|refine Qd ?_|refine Qa ?_|((first|refine Qg ⟨_,rfl,fun hc=>?_,fun hc=>?_⟩|refine Qs (fun hc=>?_) (fun hc=>?_)|refine Qt (fun hc=>?_) (fun hc=>?_))<;>first|(cases hc;done)|((try simp only [znz] at hc);first|exact znf|skip))|refine Qi ?_|refine Qf ?_|simp (maxSteps:=1000000) only [go_sem,ham,e4,hw,Int.toNat_natCast,vs,ee,Vh]|(refine hK _ ?_;clear hK K')|apply And.intro|exact zlo|omega|exact zms)
    all_goals first
      | exact hL _ (k + 1) (by simp only [Nat.reduceAdd,ovT,J5,Nat.reduceEqDiff,reduceIte,JA,JW,qV,u32,u33,u34,u35,u36,u37,u38,u39,and_self,and_true,true_and]) (by omega) (by omega) (fun a ha=>by simp only [u32,u33,u34,u35,u36,u37,u38,u39];repeat rw [if_neg (by omega)])
def qf:List AO:=[mv 17 0,mv 18 5,ia 19 2 17 18,xo 20 (.load true 2 (.t 19)),mv 21 1,mv 22 5,ia 23 2 21 22,xo 24 (.load true 2 (.t 23)),xo 25 (.eqagg true [0,0] (.t 20) (.t 24))]
def qE:List (List Nat):=[[],[],[0,1],[2],[],[],[4,5],[6],[3,7]]
def qc:OT:=.one 0 (.one 1 (.one 2 (.one 3 (.one 4 (.one 5 (.one 6 (.one 7 (.one 8 (.done)))))))))
def Vw:OP:=.one 0 false [] (mv 17 0) (.one 1 false [] (mv 18 5) (.one 2 false [] (ia 19 2 17 18) (.one 3 false [] (xo 20 (.load true 2 (.t 19))) (.one 4 false [] (mv 21 1) (.one 5 false [] (mv 22 5) (.one 6 false [] (ia 23 2 21 22) (.one 7 false [] (xo 24 (.load true 2 (.t 23))) (.one 8 false [] (xo 25 (.eqagg true [0,0] (.t 20) (.t 24))) (.done)))))))))
theorem WS:okR (qf) qE [] qc = true:=by kernel_rfl
theorem WR:Ww (ris (qf) qE []) qc = Vw:=by kernel_rfl def c_ref02_SameUses:AC:=Qo [0,1] (.reg [mc 4 (V.bool false)]) (Qo [0,1] (Qo [0,1,10] (.reg [mv 6 0,ln 7 6,mv 8 1,ln 9 8,bn 10 .neq 7 9]) (.cond (.t 10) (Qo [4] (.reg [mc 4 (V.bool false)]) (.ret)) (.skip))) (Qo [] (Qo [0,1,5] (.reg [mc 5 (V.int 0)]) (.block 0 (X1 [0,1,5] (Qo [0,1,5] (Qo [0,1,5,14] (.reg [mv 11 5,mv 12 0,ln 13 12,bn 14 .lss 11 13]) (.cond (.t 14) (.skip) (.exit 0))) (Qo [0,1,5] (.block 1 (Qo [0,1,5,25] (ach [] qc (Vw) (qf) qE) (.cond (.t 25) (Qo [4] (.reg [mc 4 (V.bool false)]) (.ret)) (.skip)))) (.reg [mv 15 5,bc 16 .add 15 (V.int 1),mv 5 16])))))) (Qo [4] (.reg [mc 4 (V.bool true)]) (.ret)))) def r_ref02_SameUses:List X0:=[.tmp 4]
def ju (Γ:Env) (f:Nat):Prop:=∀ (a:List PU) (ha:a.length < 2 ^ 60),EvN Γ f [.sl 2 (a.map usV),.sl 2 (a.map usV)] (V.bool true)
theorem acW {Γ:Env} {f:Nat} (h:Has Γ.P f 26 c_ref02_SameUses r_ref02_SameUses) :ju Γ f:=by
  intro a ha
  refine QQ h (by simp) (by simp only [V.closed,Qn,V.noSl,Jx,and_self,and_true,true_and]) (by simp only [V.closed,Qn,V.noSl,Jx,and_self,and_true,true_and]) fun C hC hm=>?_
  subst hC
  unfold c_ref02_SameUses
  have ham:(a.map usV).length = a.length:=List.length_map _
  have e0:((a.length:Int) != (a.length:Int)) = false:=by simp
  repeat' (first|refine Qb fun K' hK=>?_|refine Qe fun K' hK=>?_|refine Ql 9 (fun _=>true) rfl (WS) (WR) fun K' hK=>?_|refine Qm 9 (fun _=>true) rfl (WS) (WR) fun K' hK=>?_|refine Qc ?_|refine Qd ?_|refine Qa ?_|((first|refine Qg ⟨_,rfl,fun hc=>?_,fun hc=>?_⟩|refine Qs (fun hc=>?_) (fun hc=>?_)|refine Qt (fun hc=>?_) (fun hc=>?_))<;>first|(cases hc;done)|((try simp only [znz] at hc);first|exact znf|skip))|refine Qi ?_|refine Qf ?_|simp (maxSteps:=1000000) only [go_sem,ham,e0,Vw]|(refine hK _ ?_;clear hK K')|apply And.intro|exact zlo|omega|exact zms)
  refine Xf (ι:=Nat) (fun k=>k≤a.length) (fun k=>[(5,V.int k)]) (fun k=>a.length - k) 0 (by omega) (by omega) (by repeat' first|exact We|refine Vk (by omega) (by simp only [Ob.lt,ltL,V.lt,and_self,and_true];try omega) ?_) (fun i hi=>by simp only [ovT,J5,Nat.reduceEqDiff,reduceIte];(repeat' first|exact Vj|refine Wd ?_ ?_|simp only [V.lt,ltL,and_self,and_true]|omega)) (by simp only [Nat.reduceAdd,ovT,J5,Nat.reduceEqDiff,reduceIte,JA,JW,qV,u32,u33,u34,u35,u36,u37,u38,u39,and_self,and_true,true_and];first|done|rfl) fun k hk K' hL=>?_
  simp only [ovT,J5,Nat.reduceEqDiff,reduceIte]
  by_cases hke:k = a.length
  · have e4:decide ((k:Int) < ((a.length:Nat):Int)) = false:=decide_eq_false (by omega)
    repeat' (first|refine Qb fun K' hK=>?_|refine Qe fun K' hK=>?_|refine Ql 9 (fun _=>true) rfl (WS) (WR) fun K' hK=>?_|refine Qm 9 (fun _=>true) rfl (WS) (WR) fun K' hK=>?_|refine Qc ?_|refine Qd ?_|refine Qa ?_|((first|refine Qg ⟨_,rfl,fun hc=>?_,fun hc=>?_⟩|refine Qs (fun hc=>?_) (fun hc=>?_)|refine Qt (fun hc=>?_) (fun hc=>?_))<;>first|(cases hc;done)|((try simp only [znz] at hc);first|exact znf|skip))|refine Qi ?_|refine Qf ?_|simp (maxSteps:=1000000) only [go_sem,ham,e4,Vw]|(refine hK _ ?_;clear hK K')|apply And.intro|exact zlo|omega|exact zms)
    all_goals first|(refine QM _ rfl ?_;simp only [go_sem];done)
  · have e4:decide ((k:Int) < ((a.length:Nat):Int)) = true:=decide_eq_true (by omega)
    have hw:=Jq (k:=k) (by omega)
    obtain ⟨s,hs⟩:∃ s,a[k]? = some s:=⟨a[k],List.getElem?_eq_getElem (by omega)⟩
    have vs:(a.map usV)[k]? = some (.agg [V.int s.1,V.int s.2]):=by rw [List.getElem?_map,hs];rfl
    have ee:(s.1 == s.1 && s.2 == s.2) = true:=by simp
    repeat' (first|refine Qb fun K' hK=>?_|refine Qe fun K' hK=>?_|refine Ql 9 (fun _=>true) rfl (WS) (WR) fun K' hK=>?_|refine Qm 9 (fun _=>true) rfl (WS) (WR) fun K' hK=>?_|refine Qc ?_|refine Qd ?_|refine Qa ?_|((first|refine Qg ⟨_,rfl,fun hc=>?_,fun hc=>?_⟩|refine Qs (fun hc=>?_) (fun hc=>?_)|refine Qt (fun hc=>?_) (fun hc=>?_))<;>first|(cases hc;done)|((try simp only [znz] at hc);first|exact znf|skip))|refine Qi ?_|refine Qf ?_|simp (maxSteps:=1000000) only [go_sem,ham,e4,hw,Int.toNat_natCast,vs,ee,Vw]|(refine hK _ ?_;clear hK K')|apply And.intro|exact zlo|omega|exact zms)
    all_goals first
      | exact hL _ (k + 1) (by simp only [Nat.reduceAdd,ovT,J5,Nat.reduceEqDiff,reduceIte,JA,JW,qV,u32,u33,u34,u35,u36,u37,u38,u39,and_self,and_true,true_and]) (by omega) (by omega) (fun a ha=>by simp only [u32,u33,u34,u35,u36,u37,u38,u39];repeat rw [if_neg (by omega)])
def xD (WJ:Nat):AC:=Qo [1] (.reg [xo 1 (.box true 2 (.t 0)),mc 2 (V.bool false)]) (Qo [2] (.reg [fa 3 0 1,ld 4 1 3,ln 5 4,bc 6 .eql 5 (V.int 0),mv 7 6,xg 8 (.faddr 0 (.t 1)) 7 false,xg 9 (.load false 1 (.t 8)) 7 false,xg 10 (.call WJ [(.t 9)]) 7 false,xo 11 (.pick (.t 7) (.c (V.bool true)) (.t 10)),mv 12 11,xg 13 (.faddr 1 (.t 1)) 12 true,xg 14 (.load false 1 (.t 13)) 12 true,xg 15 (.lenL (.t 14)) 12 true,xg 16 (.bin .eql (.t 15) (.c (V.int 0))) 12 true,mg 17 16 12 true,xg 18 (.faddr 1 (.t 1)) 17 false,xg 19 (.load false 1 (.t 18)) 17 false,xg 20 (.call WJ [(.t 19)]) 17 false,xg 21 (.pick (.t 17) (.c (V.bool true)) (.t 20)) 12 true,xo 22 (.pick (.t 12) (.t 21) (.c (V.bool false))),mv 2 22]) (.ret)) def r_ref12_Ranged:List X0:=[.tmp 2]
def qH (Γ:Env) (f:Nat):Prop:=∀ (lo up:List Int) (ha:lo.length < 2 ^ 60) (hb:up.length < 2 ^ 60),EvN Γ f [ye lo up] (V.bool (Wt lo up))
theorem aeL {Γ:Env} {f WJ:Nat} (h:Has Γ.P f 23 (xD WJ) r_ref12_Ranged) (JD:jE Γ WJ):qH Γ f:=by
  intro lo up ha hb
  refine QQ h (by simp) (by simp only [V.closed,Qn,V.noSl,Jx,and_self,and_true,true_and]) (by simp only [V.closed,Qn,V.noSl,Jx,and_self,and_true,true_and]) fun C hC hm=>?_
  subst hC
  unfold xD
  have c1:=(JD lo (by omega)).b
  have c2:=(JD up (by omega)).b
  have e1:=jL lo
  have e2:=jL up
  unfold Wt
  rcases h1:lo.isEmpty with _|_<;>rcases h2:up.isEmpty with _|_<;>rcases h3:UL lo with _|_<;>rw [h1] at e1<;>rw [h2] at e2<;>rw [h3] at c1
  all_goals
    repeat' (first|refine Qb fun K' hK=>?_|refine Qe fun K' hK=>?_|refine Qc ?_|refine Qd ?_|refine Qa ?_|((first|refine Qg ⟨_,rfl,fun hc=>?_,fun hc=>?_⟩|refine Qs (fun hc=>?_) (fun hc=>?_)|refine Qt (fun hc=>?_) (fun hc=>?_))<;>first|(cases hc;done)|((try simp only [znz] at hc);first|exact znf|skip))|refine Qi ?_|refine Qf ?_|simp (maxSteps:=1000000) only [go_sem,e1,e2,h1,h2,h3,ye]|(refine hK _ ?_;clear hK K')|apply And.intro|(apply Qv;(focus first|exact c1|exact c2|exact (JD _ zsd).b))|exact zlo|omega|exact zms)
    all_goals first|(refine QM _ rfl ?_;simp only [go_sem];done)|(refine QM _ rfl ?_;simp only [go_sem];simp;done)
end Av
end
section
set_option linter.unusedSimpArgs false
set_option linter.unusedVariables false
set_option maxRecDepth 10000
set_option maxHeartbeats 4000000
namespace Av
open Go
attribute [local irreducible] AWp WY Vp Vq awS awC V1 awQ Uh Q9 YQ VZ awR YT awB okR Ww ris
theorem ank {l:List Qu} (hu:YZ l = false) {i:Nat} {p:Qu} (hp:l[i]? = some p):Vn l p.name = (i:Int):=by
  have h1:l.any (fun q=>q.name == p.name) = true:=List.any_eq_true.2 ⟨p,List.mem_of_getElem? hp,by simp⟩
  rw [← yg _ l 0] at h1
  obtain ⟨j,x,e,hj,hx⟩:=acF (fun q:Qu=>q.name == p.name) l 0 (of_decide_eq_true h1)
  have e3:i = j:=acs hu hp hj (Eq.symm (by simpa using hx))
  rw [Vn,e,e3];simp
def ahl (n:JS) (p:Qu):Bool:=p.name == n.name && inV n.lo n.up p.ver
theorem aot {l:List Qu} (hu:YZ l = false) {n:JS} {i:Nat} {p:Qu} (hp:l[i]? = some p) (hm:ahl n p = true):KN l n = (i:Int):=by
  unfold ahl at hm
  simp only [Bool.and_eq_true,beq_iff_eq] at hm
  unfold KN
  rw [← hm.1,ank hu hp,Int.toNat_natCast,hp]
  simp [hm.2]
theorem alQ {l:List Qu} {n:JS} (h:∀ p∈l,ahl n p = false):KN l n = -1:=by
  unfold KN
  split
  · rename_i p hp
    split
    · rename_i hc
      simp only [Bool.and_eq_true,decide_eq_true_eq] at hc
      obtain ⟨j,x,e,hj,hx⟩:=acF (fun q:Qu=>q.name == n.name) l 0 hc.1
      have e2:Vn l n.name = (j:Int):=by rw [Vn,e];simp
      rw [e2,Int.toNat_natCast] at hp
      rw [hj] at hp;cases hp
      have:=h _ (List.mem_of_getElem? hj)
      unfold ahl at this
      rw [hx,hc.2] at this;cases this
    · rfl
  · rfl
def we (J2:Nat):List AO:=[mv 12 0,mv 13 5,ia 14 3 12 13,fa 15 0 14,ld 16 1 15,fa 17 0 3,ld 18 1 17,bn 19 .eql 16 18,mv 20 19,xg 21 (.faddr 1 (.t 3)) 20 true,xg 22 (.load true 2 (.t 21)) 20 true,mg 23 0 20 true,mg 24 5 20 true,xg 25 (.iaddr 3 (.t 23) (.t 24)) 20 true,xg 26 (.faddr 1 (.t 25)) 20 true,xg 27 (.load false 1 (.t 26)) 20 true,xg 28 (.call J2 [(.t 22),(.t 27)]) 20 true,xo 29 (.pick (.t 20) (.t 28) (.c (V.bool false)))]
def wL:List (List Nat):=[[],[],[0,1],[2],[3],[],[5],[4,6],[7],[8],[9,8],[8],[8],[11,12,8],[13,8],[14,8],[10,15,8,8],[8,16]]
def xX:OT:=.one 0 (.one 1 (.one 2 (.one 3 (.one 4 (.one 5 (.one 6 (.one 7 (.one 8 (.one 9 (.one 10 (.one 11 (.one 12 (.one 13 (.one 14 (.one 15 (.one 16 (.one 17 (.done))))))))))))))))))
def V4 (J2:Nat):OP:=.one 0 false [] (mv 12 0) (.one 1 false [] (mv 13 5) (.one 2 false [] (ia 14 3 12 13) (.one 3 false [] (fa 15 0 14) (.one 4 false [] (ld 16 1 15) (.one 5 false [] (fa 17 0 3) (.one 6 false [] (ld 18 1 17) (.one 7 false [] (bn 19 .eql 16 18) (.one 8 false [] (mv 20 19) (.one 9 false [] (xg 21 (.faddr 1 (.t 3)) 20 true) (.one 10 false [] (xg 22 (.load true 2 (.t 21)) 20 true) (.one 11 false [] (mg 23 0 20 true) (.one 12 false [] (mg 24 5 20 true) (.one 13 false [] (xg 25 (.iaddr 3 (.t 23) (.t 24)) 20 true) (.one 14 false [] (xg 26 (.faddr 1 (.t 25)) 20 true) (.one 15 false [] (xg 27 (.load false 1 (.t 26)) 20 true) (.one 16 false [] (xg 28 (.call J2 [(.t 22),(.t 27)]) 20 true) (.one 17 false [16] (xo 29 (.pick (.t 20) (.t 28) (.c (V.bool false)))) (.done))))))))))))))))))
theorem WH (J2:Nat):okR (we J2) wL [] xX = true:=by kernel_rfl
theorem WG (J2:Nat):Ww (ris (we J2) wL []) xX = V4 J2:=by kernel_rfl def c_ref12_met (J2:Nat):AC:=Qo [0,3] (.reg [xo 3 (.box true 3 (.t 1)),mc 4 (V.int 0)]) (Qo [] (Qo [0,3,5] (.reg [mc 5 (V.int 0)]) (.block 0 (X1 [0,3,5] (Qo [0,3,5] (Qo [0,3,5,9] (.reg [mv 6 5,mv 7 0,ln 8 7,bn 9 .lss 6 8]) (.cond (.t 9) (.skip) (.exit 0))) (Qo [0,3,5] (.block 1 (Qo [0,3,5,29] (ach [] xX (V4 J2) (we J2) wL) (.cond (.t 29) (Qo [4] (.reg [mv 30 5,mv 4 30]) (.ret)) (.skip)))) (.reg [mv 10 5,bc 11 .add 10 (V.int 1),mv 5 11])))))) (Qo [4] (.reg [mc 4 (V.int (-1))]) (.ret))) def r_ref12_met:List X0:=[.tmp 4]
def xm (Γ:Env) (f:Nat):Prop:=∀ (l:List Qu) (n:JS) (hl:PSz l) (hn:n.Sz) (hu:YZ l = false),EvN Γ f [.sl 3 (l.map Qu.v),n.v] (V.int (KN l n))
theorem ahL {Γ:Env} {f J2:Nat} (h:Has Γ.P f 31 (c_ref12_met J2) r_ref12_met) (J8:wU Γ J2):xm Γ f:=by
  intro l n hl hn hu
  refine QQ h (by simp) (by simp only [V.closed,Qn,V.noSl,Jx,and_self,and_true,true_and]) (by simp only [V.closed,Qn,V.noSl,Jx,and_self,and_true,true_and]) fun C hC hm=>?_
  subst hC
  unfold c_ref12_met
  have hpl:(l.map Qu.v).length = l.length:=List.length_map _
  have hll:=hl.1
  simp only [JS.v,JS.cells]
  repeat' (first|refine Qb fun K' hK=>?_|refine Qe fun K' hK=>?_|refine Ql 18 (fun _=>true) rfl (WH _) (WG _) fun K' hK=>?_|refine Qm 18 (fun _=>true) rfl (WH _) (WG _) fun K' hK=>?_|refine Qc ?_|refine Qd ?_|refine Qa ?_|((first|refine Qg ⟨_,rfl,fun hc=>?_,fun hc=>?_⟩|refine Qs (fun hc=>?_) (fun hc=>?_)|refine Qt (fun hc=>?_) (fun hc=>?_))<;>first|(cases hc;done)|((try simp only [znz] at hc);first|exact znf|skip))|refine Qi ?_|refine Qf ?_|simp (maxSteps:=1000000) only [go_sem,V4]|(refine hK _ ?_;clear hK K')|apply And.intro|((first|apply Qv|apply Jm);(focus first|exact (J8 _ _ _ zsd zsd zsd).b))|exact zlo|omega|exact zms)
  refine Xf (ι:=Nat) (fun k=>k≤l.length∧∀ p∈l.take k,ahl n p = false) (fun k=>[(5,V.int k)]) (fun k=>l.length - k) 0 (by omega) ⟨by simp,by simp⟩ (by repeat' first|exact We|refine Vk (by omega) (by simp only [Ob.lt,ltL,V.lt,and_self,and_true];try omega) ?_) (fun i hi=>by simp only [ovT,J5,Nat.reduceEqDiff,reduceIte];(repeat' first|exact Vj|refine Wd ?_ ?_|simp only [V.lt,ltL,and_self,and_true]|omega)) (by simp only [Nat.reduceAdd,ovT,J5,Nat.reduceEqDiff,reduceIte,JA,JW,qV,u32,u33,u34,u35,u36,u37,u38,u39,and_self,and_true,true_and];first|done|rfl) fun k hk K' hL=>?_
  obtain ⟨hk,hinv⟩:=hk
  simp only [ovT,J5,Nat.reduceEqDiff,reduceIte]
  by_cases hke:k = l.length
  · have e1:decide ((k:Int) < ((l.length:Nat):Int)) = false:=decide_eq_false (by omega)
    rw [hke,List.take_length] at hinv
    rw [alQ hinv]
    repeat' (first|refine Qb fun K' hK=>?_|refine Qe fun K' hK=>?_|refine Ql 18 (fun _=>true) rfl (WH _) (WG _) fun K' hK=>?_|refine Qm 18 (fun _=>true) rfl (WH _) (WG _) fun K' hK=>?_|refine Qc ?_|refine Qd ?_|refine Qa ?_|((first|refine Qg ⟨_,rfl,fun hc=>?_,fun hc=>?_⟩|refine Qs (fun hc=>?_) (fun hc=>?_)|refine Qt (fun hc=>?_) (fun hc=>?_))<;>first|(cases hc;done)|((try simp only [znz] at hc);first|exact znf|skip))|refine Qi ?_|refine Qf ?_|simp (maxSteps:=1000000) only [go_sem,hpl,e1,V4]|(refine hK _ ?_;clear hK K')|apply And.intro|((first|apply Qv|apply Jm);(focus first|exact (J8 _ _ _ zsd zsd zsd).b))|exact zlo|omega|exact zms)
    all_goals first|(refine QM _ rfl ?_;simp only [go_sem];done)
  · have e1:decide ((k:Int) < ((l.length:Nat):Int)) = true:=decide_eq_true (by omega)
    have hw:=Jq (k:=k) (by omega)
    obtain ⟨p,hp⟩:∃ p,l[k]? = some p:=⟨l[k],List.getElem?_eq_getElem (by omega)⟩
    have hpz:=hl.2 p (List.mem_of_getElem? hp)
    have vp:(l.map Qu.v)[k]? = some (.agg [V.str p.name,.sl 1 (p.ver.map V.int),.sl 3 (p.needs.map JS.v)]):=by rw [List.getElem?_map,hp];rfl
    have gI:=(J8 n.lo n.up p.ver hn.2.1 hn.2.2 hpz.2.1).b
    simp only [ye] at gI
    have hnext:ahl n p = false→∀ q∈l.take (k + 1),ahl n q = false:=fun h q hq=>by
      rw [List.take_add_one,hp] at hq
      rcases List.mem_append.1 hq with hq|hq
      · exact hinv q hq
      · simp only [Option.toList_some,List.mem_singleton] at hq
        subst hq;exact h
    have hmd:ahl n p = (p.name == n.name && inV n.lo n.up p.ver):=rfl
    rcases h1:(p.name == n.name) with _|_
    · rw [h1,Bool.false_and] at hmd
      repeat' (first|refine Qb fun K' hK=>?_|refine Qe fun K' hK=>?_|refine Ql 18 (fun _=>true) rfl (WH _) (WG _) fun K' hK=>?_|refine Qm 18 (fun _=>true) rfl (WH _) (WG _) fun K' hK=>?_|refine Qc ?_|refine Qd ?_|refine Qa ?_|((first|refine Qg ⟨_,rfl,fun hc=>?_,fun hc=>?_⟩|refine Qs (fun hc=>?_) (fun hc=>?_)|refine Qt (fun hc=>?_) (fun hc=>?_))<;>first|(cases hc;done)|((try simp only [znz] at hc);first|exact znf|skip))|refine Qi ?_|refine Qf ?_|simp (maxSteps:=1000000) only [go_sem,hpl,e1,hw,Int.toNat_natCast,vp,h1,V4]|(refine hK _ ?_;clear hK K')|apply And.intro|((first|apply Qv|apply Jm);(focus first|exact gI|exact (J8 _ _ _ zsd zsd zsd).b))|exact zlo|omega|exact zms)
      all_goals first
        | exact hL _ (k + 1) (by simp only [Nat.reduceAdd,ovT,J5,Nat.reduceEqDiff,reduceIte,JA,JW,qV,u32,u33,u34,u35,u36,u37,u38,u39,and_self,and_true,true_and]) ⟨by omega,hnext hmd⟩ (by omega) (fun a ha=>by simp only [u32,u33,u34,u35,u36,u37,u38,u39];repeat rw [if_neg (by omega)])
    · rw [h1,Bool.true_and] at hmd
      rcases h2:inV n.lo n.up p.ver with _|_
      · rw [h2] at gI hmd
        repeat' (first|refine Qb fun K' hK=>?_|refine Qe fun K' hK=>?_|refine Ql 18 (fun _=>true) rfl (WH _) (WG _) fun K' hK=>?_|refine Qm 18 (fun _=>true) rfl (WH _) (WG _) fun K' hK=>?_|refine Qc ?_|refine Qd ?_|refine Qa ?_|((first|refine Qg ⟨_,rfl,fun hc=>?_,fun hc=>?_⟩|refine Qs (fun hc=>?_) (fun hc=>?_)|refine Qt (fun hc=>?_) (fun hc=>?_))<;>first|(cases hc;done)|((try simp only [znz] at hc);first|exact znf|skip))|refine Qi ?_|refine Qf ?_|simp (maxSteps:=1000000) only [go_sem,hpl,e1,hw,Int.toNat_natCast,vp,h1,V4]|(refine hK _ ?_;clear hK K')|apply And.intro|((first|apply Qv|apply Jm);(focus first|exact gI|exact (J8 _ _ _ zsd zsd zsd).b))|exact zlo|omega|exact zms)
        all_goals first
          | exact hL _ (k + 1) (by simp only [Nat.reduceAdd,ovT,J5,Nat.reduceEqDiff,reduceIte,JA,JW,qV,u32,u33,u34,u35,u36,u37,u38,u39,and_self,and_true,true_and]) ⟨by omega,hnext hmd⟩ (by omega) (fun a ha=>by simp only [u32,u33,u34,u35,u36,u37,u38,u39];repeat rw [if_neg (by omega)])
      · rw [h2] at gI hmd
        rw [aot hu hp hmd]
        repeat' (first|refine Qb fun K' hK=>?_|refine Qe fun K' hK=>?_|refine Ql 18 (fun _=>true) rfl (WH _) (WG _) fun K' hK=>?_|refine Qm 18 (fun _=>true) rfl (WH _) (WG _) fun K' hK=>?_|refine Qc ?_|refine Qd ?_|refine Qa ?_|((first|refine Qg ⟨_,rfl,fun hc=>?_,fun hc=>?_⟩|refine Qs (fun hc=>?_) (fun hc=>?_)|refine Qt (fun hc=>?_) (fun hc=>?_))<;>first|(cases hc;done)|((try simp only [znz] at hc);first|exact znf|skip))|refine Qi ?_|refine Qf ?_|simp (maxSteps:=1000000) only [go_sem,hpl,e1,hw,Int.toNat_natCast,vp,h1,V4]|(refine hK _ ?_;clear hK K')|apply And.intro|((first|apply Qv|apply Jm);(focus first|exact gI|exact (J8 _ _ _ zsd zsd zsd).b))|exact zlo|omega|exact zms)
        all_goals first|(refine QM _ rfl ?_;simp only [go_sem];done)
end Av
end
section
set_option linter.unusedSimpArgs false
set_option linter.unusedVariables false
set_option maxRecDepth 10000
set_option maxHeartbeats 4000000
namespace Av
open Go
attribute [local irreducible] AWp WY Vp Vq awS awC V1 awQ Uh Q9 YQ VZ awR YT awB okR Ww ris
theorem am6 (p:Qu):akX p = !(Xs p.name && p.needs.all fun n=>Xs n.name):=by
  unfold akX;rw [Bool.not_and];congr 1
  induction p.needs with
  | nil=>rfl
  | cons n r ih=>rw [List.any_cons,List.all_cons,Bool.not_and,ih]
theorem am5 (p:Qu):ajn p = !(UL p.ver && p.needs.all fun n=>Wt n.lo n.up):=by
  unfold ajn;rw [Bool.not_and];congr 1
  induction p.needs with
  | nil=>rfl
  | cons n r ih=>rw [List.any_cons,List.all_cons,Bool.not_and,ih]
def yq:List AO:=[mv 107 0,mv 108 10,bc 109 .sub 108 (V.int 1),ia 110 3 107 109,fa 111 0 110,ld 112 1 111,mv 113 0,mv 114 10,ia 115 3 113 114,fa 116 0 115,ld 117 1 116,bn 118 .geq 112 117]
def yQ:List (List Nat):=[[],[],[1],[0,2],[3],[4],[],[],[6,7],[8],[9],[5,10]]
def yo:OT:=.one 0 (.one 1 (.one 2 (.one 3 (.one 4 (.one 5 (.one 6 (.one 7 (.one 8 (.one 9 (.one 10 (.one 11 (.done))))))))))))
def JC:OP:=.one 0 false [] (mv 107 0) (.one 1 false [] (mv 108 10) (.one 2 false [] (bc 109 .sub 108 (V.int 1)) (.one 3 false [] (ia 110 3 107 109) (.one 4 false [] (fa 111 0 110) (.one 5 false [] (ld 112 1 111) (.one 6 false [] (mv 113 0) (.one 7 false [] (mv 114 10) (.one 8 false [] (ia 115 3 113 114) (.one 9 false [] (fa 116 0 115) (.one 10 false [] (ld 117 1 116) (.one 11 false [] (bn 118 .geq 112 117) (.done))))))))))))
theorem QS:okR (yq) yQ [] yo = true:=by kernel_rfl
theorem QR:Ww (ris (yq) yQ []) yo = JC:=by kernel_rfl def c_ref12_Check (jK WJ WK:Nat):AC:=Qo [0] (.reg [mc 2 (V.int 0)]) (Qo [0] (Qo [0,13] (.reg [mv 11 0,ln 12 11,bc 13 .gtr 12 (V.int 64)]) (.cond (.t 13) (Qo [2] (.reg [mc 2 (V.int 3)]) (.ret)) (.skip))) (Qo [0] (Qo [0,3] (.reg [mc 3 (V.int 0)]) (.block 0 (X1 [0,3] (Qo [0,3] (Qo [0,3,17] (.reg [mv 14 3,mv 15 0,ln 16 15,bn 17 .lss 14 16]) (.cond (.t 17) (.skip) (.exit 0))) (Qo [0,3] (.block 1 (Qo [0,3,26] (.reg [mv 20 0,mv 21 3,ia 22 3 20 21,fa 23 2 22,ld 24 1 23,ln 25 24,bc 26 .gtr 25 (V.int 8)]) (.cond (.t 26) (Qo [2] (.reg [mc 2 (V.int 3)]) (.ret)) (.skip)))) (.reg [mv 18 3,bc 19 .add 18 (V.int 1),mv 3 19])))))) (Qo [0] (Qo [0,4] (.reg [mc 4 (V.int 0)]) (.block 2 (X1 [0,4] (Qo [0,4] (Qo [0,4,30] (.reg [mv 27 4,mv 28 0,ln 29 28,bn 30 .lss 27 29]) (.cond (.t 30) (.skip) (.exit 2))) (Qo [0,4] (.block 3 (Qo [0,4,5] (.reg [mv 33 0,mv 34 4,ia 35 3 33 34,fa 36 0 35,ld 37 1 36,cl 38 jK [37],mv 5 38]) (Qo [0,4,5] (Qo [0,4,5,6] (.reg [mc 6 (V.int 0)]) (.block 4 (X1 [0,4,5,6] (Qo [0,4,5,6] (Qo [0,4,5,6,46] (.reg [mv 39 6,mv 40 0,mv 41 4,ia 42 3 40 41,fa 43 2 42,ld 44 1 43,ln 45 44,bn 46 .lss 39 45]) (.cond (.t 46) (.skip) (.exit 4))) (Qo [0,4,5,6] (.block 5 (.reg [mv 49 5,mv 50 49,mg 51 0 50 true,mg 52 4 50 true,xg 53 (.iaddr 3 (.t 51) (.t 52)) 50 true,xg 54 (.faddr 2 (.t 53)) 50 true,xg 55 (.load false 1 (.t 54)) 50 true,mg 56 6 50 true,xg 57 (.iaddr 3 (.t 55) (.t 56)) 50 true,xg 58 (.faddr 0 (.t 57)) 50 true,xg 59 (.load false 1 (.t 58)) 50 true,xg 60 (.call jK [(.t 59)]) 50 true,xo 61 (.pick (.t 50) (.t 60) (.c (V.bool false))),mv 5 61])) (.reg [mv 47 6,bc 48 .add 47 (V.int 1),mv 6 48])))))) (Qo [0,4,63] (.reg [mv 62 5,xo 63 (.un .not (.t 62))]) (.cond (.t 63) (Qo [2] (.reg [mc 2 (V.int 14)]) (.ret)) (.skip)))))) (.reg [mv 31 4,bc 32 .add 31 (V.int 1),mv 4 32])))))) (Qo [0] (Qo [0,7] (.reg [mc 7 (V.int 0)]) (.block 6 (X1 [0,7] (Qo [0,7] (Qo [0,7,67] (.reg [mv 64 7,mv 65 0,ln 66 65,bn 67 .lss 64 66]) (.cond (.t 67) (.skip) (.exit 6))) (Qo [0,7] (.block 7 (Qo [0,7,8] (.reg [mv 70 0,mv 71 7,ia 72 3 70 71,fa 73 1 72,ld 74 1 73,cl 75 WJ [74],mv 8 75]) (Qo [0,7,8] (Qo [0,7,8,9] (.reg [mc 9 (V.int 0)]) (.block 8 (X1 [0,7,8,9] (Qo [0,7,8,9] (Qo [0,7,8,9,83] (.reg [mv 76 9,mv 77 0,mv 78 7,ia 79 3 77 78,fa 80 2 79,ld 81 1 80,ln 82 81,bn 83 .lss 76 82]) (.cond (.t 83) (.skip) (.exit 8))) (Qo [0,7,8,9] (.block 9 (.reg [mv 86 8,mv 87 86,mg 88 0 87 true,mg 89 7 87 true,xg 90 (.iaddr 3 (.t 88) (.t 89)) 87 true,xg 91 (.faddr 2 (.t 90)) 87 true,xg 92 (.load false 1 (.t 91)) 87 true,mg 93 9 87 true,xg 94 (.iaddr 3 (.t 92) (.t 93)) 87 true,xg 95 (.faddr 1 (.t 94)) 87 true,xg 96 (.load true 2 (.t 95)) 87 true,xg 97 (.call WK [(.t 96)]) 87 true,xo 98 (.pick (.t 87) (.t 97) (.c (V.bool false))),mv 8 98])) (.reg [mv 84 9,bc 85 .add 84 (V.int 1),mv 9 85])))))) (Qo [0,7,100] (.reg [mv 99 8,xo 100 (.un .not (.t 99))]) (.cond (.t 100) (Qo [2] (.reg [mc 2 (V.int 22)]) (.ret)) (.skip)))))) (.reg [mv 68 7,bc 69 .add 68 (V.int 1),mv 7 69])))))) (Qo [] (Qo [0,10] (.reg [mc 10 (V.int 1)]) (.block 10 (X1 [0,10] (Qo [0,10] (Qo [0,10,104] (.reg [mv 101 10,mv 102 0,ln 103 102,bn 104 .lss 101 103]) (.cond (.t 104) (.skip) (.exit 10))) (Qo [0,10] (.block 11 (Qo [0,10,118] (ach [] yo (JC) (yq) yQ) (.cond (.t 118) (Qo [2] (.reg [mc 2 (V.int 6)]) (.ret)) (.skip)))) (.reg [mv 105 10,bc 106 .add 105 (V.int 1),mv 10 106])))))) (Qo [2] (.reg [mc 2 (V.int 0)]) (.ret))))))) def r_ref12_Check:List X0:=[.tmp 2]
def Uy (Γ:Env) (f:Nat):Prop:=∀ (l:List Qu) (hl:PSz l),EvN Γ f [.sl 3 (l.map Qu.v)] (V.int (Y8 l))
theorem afs {Γ:Env} {f jK WJ WK:Nat} (h:Has Γ.P f 119 (c_ref12_Check jK WJ WK) r_ref12_Check) (J6:wV Γ jK) (JD:jE Γ WJ) (QT:qH Γ WK):Uy Γ f:=by
  intro l hl
  refine QQ h (by simp) (by simp only [V.closed,Qn,V.noSl,Jx,and_self,and_true,true_and]) (by simp only [V.closed,Qn,V.noSl,Jx,and_self,and_true,true_and]) fun C hC hm=>?_
  subst hC
  unfold c_ref12_Check
  have hpl:(l.map Qu.v).length = l.length:=List.length_map _
  have hll:=hl.1
  have hgp:∀ (k:Nat) (p:Qu),l[k]? = some p→(l.map Qu.v)[k]? = some (V.agg [V.str p.name,.sl 1 (p.ver.map V.int),.sl 3 (p.needs.map JS.v)]):=fun k p h=>by rw [List.getElem?_map,h];rfl
  have hgn:∀ (ns:List JS) (k:Nat) (n:JS),ns[k]? = some n→(ns.map JS.v)[k]? = some (V.agg [V.str n.name,.sl 1 (n.lo.map V.int),.sl 1 (n.up.map V.int)]):=fun ns k n h=>by rw [List.getElem?_map,h];rfl
  by_cases hb:(l.length:Int) > 64
  · have e1:decide ((l.length:Int) > 64) = true:=decide_eq_true hb
    have e2:Y8 l = 3:=by unfold Y8;rw [e1];rfl
    rw [e2]
    repeat' (first|refine Qb fun K' hK=>?_|refine Qe fun K' hK=>?_|refine Ql 12 (fun _=>true) rfl (QS) (QR) fun K' hK=>?_|refine Qm 12 (fun _=>true) rfl (QS) (QR) fun K' hK=>?_|refine Qc ?_|refine Qd ?_|refine Qa ?_|((first|refine Qg ⟨_,rfl,fun hc=>?_,fun hc=>?_⟩|refine Qs (fun hc=>?_) (fun hc=>?_)|refine Qt (fun hc=>?_) (fun hc=>?_))<;>first|(cases hc;done)|((try simp only [znz] at hc);first|exact znf|skip))|refine Qi ?_|refine Qf ?_|simp (maxSteps:=1000000) only [go_sem,hpl,e1,JC]|(refine hK _ ?_;clear hK K')|apply And.intro|((first|apply Qv|apply Jm);(focus first|exact (J6 _ zsd).b|exact (JD _ zsd).b|exact (QT _ _ zsd zsd).b))|exact zlo|omega|exact zms)
    all_goals first|(refine QM _ rfl ?_;simp only [go_sem];done)
  have e1:decide ((l.length:Int) > 64) = false:=decide_eq_false hb
  have hck:Y8 l = if l.any aew = true then 3 else if l.any akX = true then 14 else if l.any ajn = true then 22 else if YZ l = true then 6 else 0:=by
    unfold Y8;rw [e1,Bool.false_or]
  rw [hck]
  repeat' (first|refine Qb fun K' hK=>?_|refine Qe fun K' hK=>?_|refine Ql 12 (fun _=>true) rfl (QS) (QR) fun K' hK=>?_|refine Qm 12 (fun _=>true) rfl (QS) (QR) fun K' hK=>?_|refine Qc ?_|refine Qd ?_|refine Qa ?_|((first|refine Qg ⟨_,rfl,fun hc=>?_,fun hc=>?_⟩|refine Qs (fun hc=>?_) (fun hc=>?_)|refine Qt (fun hc=>?_) (fun hc=>?_))<;>first|(cases hc;done)|((try simp only [znz] at hc);first|exact znf|skip))|refine Qi ?_|refine Qf ?_|simp (maxSteps:=1000000) only [go_sem,hpl,e1,JC]|(refine hK _ ?_;clear hK K')|apply And.intro|((first|apply Qv|apply Jm);(focus first|exact (J6 _ zsd).b|exact (JD _ zsd).b|exact (QT _ _ zsd zsd).b))|exact zlo|omega|exact zms)
  refine Xf (ι:=Nat) (fun k=>k≤l.length∧(l.drop k).any aew = l.any aew) (fun k=>[(3,V.int k)]) (fun k=>l.length - k) 0 (by omega) ⟨by simp,by simp⟩ (by repeat' first|exact We|refine Vk (by omega) (by simp only [Ob.lt,ltL,V.lt,and_self,and_true];try omega) ?_) (fun i hi=>by simp only [ovT,J5,Nat.reduceEqDiff,reduceIte];(repeat' first|exact Vj|refine Wd ?_ ?_|simp only [V.lt,ltL,and_self,and_true]|omega)) (by simp only [Nat.reduceAdd,ovT,J5,Nat.reduceEqDiff,reduceIte,JA,JW,qV,u32,u33,u34,u35,u36,u37,u38,u39,and_self,and_true,true_and];first|done|rfl) fun k hk K1 hL=>?_
  obtain ⟨hk,hinv⟩:=hk
  simp only [ovT,J5,Nat.reduceEqDiff,reduceIte]
  rcases hd:l.drop k with _|⟨p,r⟩
  case cons =>
    obtain ⟨hk',hget,hr⟩:=Yy hd
    have hst:=yO (p:=aew) hd
    rw [hinv] at hst
    have hw:=Jq (k:=k) (by omega)
    have c1:decide ((k:Int) < (l.length:Int)) = true:=decide_eq_true (by omega)
    have vp:=hgp k p hget
    have hnl:(p.needs.map JS.v).length = p.needs.length:=List.length_map _
    rcases hm:aew p with _|_
    · have hm2:decide ((p.needs.length:Int) > 8) = false:=hm
      rw [hm,Bool.false_or] at hst
      repeat' (first|refine Qb fun K' hK=>?_|refine Qe fun K' hK=>?_|refine Ql 12 (fun _=>true) rfl (QS) (QR) fun K' hK=>?_|refine Qm 12 (fun _=>true) rfl (QS) (QR) fun K' hK=>?_|refine Qc ?_|refine Qd ?_|refine Qa ?_|((first|refine Qg ⟨_,rfl,fun hc=>?_,fun hc=>?_⟩|refine Qs (fun hc=>?_) (fun hc=>?_)|refine Qt (fun hc=>?_) (fun hc=>?_))<;>first|(cases hc;done)|((try simp only [znz] at hc);first|exact znf|skip))|refine Qi ?_|refine Qf ?_|simp (maxSteps:=1000000) only [go_sem,hpl,c1,hw,Int.toNat_natCast,vp,hnl,hm2,JC]|(refine hK _ ?_;clear hK K')|apply And.intro|((first|apply Qv|apply Jm);(focus first|exact (J6 _ zsd).b|exact (JD _ zsd).b|exact (QT _ _ zsd zsd).b))|exact zlo|omega|exact zms)
      all_goals first
        | exact hL _ (k + 1) (by simp only [Nat.reduceAdd,ovT,J5,Nat.reduceEqDiff,reduceIte,JA,JW,qV,u32,u33,u34,u35,u36,u37,u38,u39,and_self,and_true,true_and]) ⟨by omega,hst.symm⟩ (by omega) (fun a ha=>by simp only [u32,u33,u34,u35,u36,u37,u38,u39];repeat rw [if_neg (by omega)])
    · have hm2:decide ((p.needs.length:Int) > 8) = true:=hm
      rw [hm,Bool.true_or] at hst
      rw [hst]
      repeat' (first|refine Qb fun K' hK=>?_|refine Qe fun K' hK=>?_|refine Ql 12 (fun _=>true) rfl (QS) (QR) fun K' hK=>?_|refine Qm 12 (fun _=>true) rfl (QS) (QR) fun K' hK=>?_|refine Qc ?_|refine Qd ?_|refine Qa ?_|((first|refine Qg ⟨_,rfl,fun hc=>?_,fun hc=>?_⟩|refine Qs (fun hc=>?_) (fun hc=>?_)|refine Qt (fun hc=>?_) (fun hc=>?_))<;>first|(cases hc;done)|((try simp only [znz] at hc);first|exact znf|skip))|refine Qi ?_|refine Qf ?_|simp (maxSteps:=1000000) only [go_sem,hpl,c1,hw,Int.toNat_natCast,vp,hnl,hm2,JC]|(refine hK _ ?_;clear hK K')|apply And.intro|((first|apply Qv|apply Jm);(focus first|exact (J6 _ zsd).b|exact (JD _ zsd).b|exact (QT _ _ zsd zsd).b))|exact zlo|omega|exact zms)
      all_goals first|(refine QM _ rfl ?_;simp only [go_sem];done)
  have c1:decide ((k:Int) < (l.length:Int)) = false:=decide_eq_false (by have:=Xx hd;omega)
  rw [hd] at hinv
  rw [← hinv]
  simp only [List.any_nil,Bool.false_eq_true,if_false]
  repeat' (first|refine Qb fun K' hK=>?_|refine Qe fun K' hK=>?_|refine Ql 12 (fun _=>true) rfl (QS) (QR) fun K' hK=>?_|refine Qm 12 (fun _=>true) rfl (QS) (QR) fun K' hK=>?_|refine Qc ?_|refine Qd ?_|refine Qa ?_|((first|refine Qg ⟨_,rfl,fun hc=>?_,fun hc=>?_⟩|refine Qs (fun hc=>?_) (fun hc=>?_)|refine Qt (fun hc=>?_) (fun hc=>?_))<;>first|(cases hc;done)|((try simp only [znz] at hc);first|exact znf|skip))|refine Qi ?_|refine Qf ?_|simp (maxSteps:=1000000) only [go_sem,hpl,c1,JC]|(refine hK _ ?_;clear hK K')|apply And.intro|((first|apply Qv|apply Jm);(focus first|exact (J6 _ zsd).b|exact (JD _ zsd).b|exact (QT _ _ zsd zsd).b))|exact zlo|omega|exact zms)
  clear hd hinv hL K1 c1
  refine Xf (ι:=Nat) (fun k=>k≤l.length∧(l.drop k).any akX = l.any akX) (fun k=>[(4,V.int k)]) (fun k=>l.length - k) 0 (by omega) ⟨by simp,by simp⟩ (by repeat' first|exact We|refine Vk (by omega) (by simp only [Ob.lt,ltL,V.lt,and_self,and_true];try omega) ?_) (fun i hi=>by simp only [ovT,J5,Nat.reduceEqDiff,reduceIte];(repeat' first|exact Vj|refine Wd ?_ ?_|simp only [V.lt,ltL,and_self,and_true]|omega)) (by simp only [Nat.reduceAdd,ovT,J5,Nat.reduceEqDiff,reduceIte,JA,JW,qV,u32,u33,u34,u35,u36,u37,u38,u39,and_self,and_true,true_and];first|done|rfl) fun k hk K1 hL=>?_
  obtain ⟨hk,hinv⟩:=hk
  simp only [ovT,J5,Nat.reduceEqDiff,reduceIte]
  rcases hd:l.drop k with _|⟨p,r⟩
  case cons =>
    obtain ⟨hk',hget,hr⟩:=Yy hd
    have hst:=yO (p:=akX) hd
    rw [hinv] at hst
    have hpz:=hl.2 p (List.mem_of_getElem? hget)
    have hw:=Jq (k:=k) (by omega)
    have c1:decide ((k:Int) < (l.length:Int)) = true:=decide_eq_true (by omega)
    have vp:=hgp k p hget
    have hnl:(p.needs.map JS.v).length = p.needs.length:=List.length_map _
    have gN:=(J6 p.name hpz.1).b
    repeat' (first|refine Qb fun K' hK=>?_|refine Qe fun K' hK=>?_|refine Ql 12 (fun _=>true) rfl (QS) (QR) fun K' hK=>?_|refine Qm 12 (fun _=>true) rfl (QS) (QR) fun K' hK=>?_|refine Qc ?_|refine Qd ?_|refine Qa ?_|((first|refine Qg ⟨_,rfl,fun hc=>?_,fun hc=>?_⟩|refine Qs (fun hc=>?_) (fun hc=>?_)|refine Qt (fun hc=>?_) (fun hc=>?_))<;>first|(cases hc;done)|((try simp only [znz] at hc);first|exact znf|skip))|refine Qi ?_|refine Qf ?_|simp (maxSteps:=1000000) only [go_sem,hpl,c1,Int.toNat_natCast,vp,JC]|(refine hK _ ?_;clear hK K')|apply And.intro|((first|apply Qv|apply Jm);(focus first|exact gN|exact (J6 _ zsd).b|exact (JD _ zsd).b|exact (QT _ _ zsd zsd).b))|exact zlo|omega|exact zms)
    refine Xf (ι:=Nat) (fun m=>m≤p.needs.length) (fun m=>[(5,V.bool (Xs p.name && (p.needs.take m).all fun n=>Xs n.name)),(6,V.int m)]) (fun m=>p.needs.length - m) 0 (by omega) (by omega) (by repeat' first|exact We|refine Vk (by omega) (by simp only [Ob.lt,ltL,V.lt,and_self,and_true];try omega) ?_) (fun i hi=>by simp only [ovT,J5,Nat.reduceEqDiff,reduceIte];(repeat' first|exact Vj|refine Wd ?_ ?_|simp only [V.lt,ltL,and_self,and_true]|omega)) (by simp only [Nat.reduceAdd,ovT,J5,Nat.reduceEqDiff,reduceIte,JA,JW,qV,u32,u33,u34,u35,u36,u37,u38,u39,and_self,and_true,true_and];first|done|(simp;done)|rfl) fun m hm K2 hL2=>?_
    simp only [ovT,J5,Nat.reduceEqDiff,reduceIte]
    by_cases hme:m = p.needs.length
    · have c2:decide ((m:Int) < (p.needs.length:Int)) = false:=decide_eq_false (by omega)
      rw [hme,List.take_length]
      have hmn:=am6 p
      rcases hb2:(Xs p.name && p.needs.all fun n=>Xs n.name) with _|_
      · rw [hb2] at hmn
        rw [hmn,Bool.not_false,Bool.true_or] at hst
        rw [hst]
        repeat' (first|refine Qb fun K' hK=>?_|refine Qe fun K' hK=>?_|refine Ql 12 (fun _=>true) rfl (QS) (QR) fun K' hK=>?_|refine Qm 12 (fun _=>true) rfl (QS) (QR) fun K' hK=>?_|refine Qc ?_|refine Qd ?_|refine Qa ?_|((first|refine Qg ⟨_,rfl,fun hc=>?_,fun hc=>?_⟩|refine Qs (fun hc=>?_) (fun hc=>?_)|refine Qt (fun hc=>?_) (fun hc=>?_))<;>first|(cases hc;done)|((try simp only [znz] at hc);first|exact znf|skip))|refine Qi ?_|refine Qf ?_|simp (maxSteps:=1000000) only [go_sem,hpl,c1,c2,hw,hme,hnl,Int.toNat_natCast,vp,JC]|(refine hK _ ?_;clear hK K')|apply And.intro|((first|apply Qv|apply Jm);(focus first|exact (J6 _ zsd).b|exact (JD _ zsd).b|exact (QT _ _ zsd zsd).b))|exact zlo|omega|exact zms)
        all_goals first|(refine QM _ rfl ?_;simp only [go_sem];done)
      · rw [hb2] at hmn
        rw [hmn,Bool.not_true,Bool.false_or] at hst
        repeat' (first|refine Qb fun K' hK=>?_|refine Qe fun K' hK=>?_|refine Ql 12 (fun _=>true) rfl (QS) (QR) fun K' hK=>?_|refine Qm 12 (fun _=>true) rfl (QS) (QR) fun K' hK=>?_|refine Qc ?_|refine Qd ?_|refine Qa ?_|((first|refine Qg ⟨_,rfl,fun hc=>?_,fun hc=>?_⟩|refine Qs (fun hc=>?_) (fun hc=>?_)|refine Qt (fun hc=>?_) (fun hc=>?_))<;>first|(cases hc;done)|((try simp only [znz] at hc);first|exact znf|skip))|refine Qi ?_|refine Qf ?_|simp (maxSteps:=1000000) only [go_sem,hpl,c1,c2,hw,hme,hnl,Int.toNat_natCast,vp,JC]|(refine hK _ ?_;clear hK K')|apply And.intro|((first|apply Qv|apply Jm);(focus first|exact (J6 _ zsd).b|exact (JD _ zsd).b|exact (QT _ _ zsd zsd).b))|exact zlo|omega|exact zms)
        all_goals first
          | exact hL _ (k + 1) (by simp only [Nat.reduceAdd,ovT,J5,Nat.reduceEqDiff,reduceIte,JA,JW,qV,u32,u33,u34,u35,u36,u37,u38,u39,and_self,and_true,true_and]) ⟨by omega,hst.symm⟩ (by omega) (fun a ha=>by simp only [u32,u33,u34,u35,u36,u37,u38,u39];repeat rw [if_neg (by omega)])
    · have c2:decide ((m:Int) < (p.needs.length:Int)) = true:=decide_eq_true (by omega)
      obtain ⟨n,hn⟩:∃ n,p.needs[m]? = some n:=⟨p.needs[m],List.getElem?_eq_getElem (by omega)⟩
      have vn:=hgn p.needs m n hn
      have hw2:=Jq (k:=m) (by have:=hpz.2.2.1;omega)
      have gM:=(J6 n.name (hpz.2.2.2 n (List.mem_of_getElem? hn)).1).b
      have hall:(p.needs.take (m + 1)).all (fun n=>Xs n.name) = ((p.needs.take m).all (fun n=>Xs n.name) && Xs n.name):=agQ hn
      have hL2':=fun (s':St)=>hL2 s' (m + 1)
      rw [hall,← Bool.and_assoc] at hL2'
      generalize (Xs p.name && (p.needs.take m).all fun n=>Xs n.name) = bb at *
      rcases bb with _|_
      · rw [Bool.false_and] at hL2'
        repeat' (first|refine Qb fun K' hK=>?_|refine Qe fun K' hK=>?_|refine Ql 12 (fun _=>true) rfl (QS) (QR) fun K' hK=>?_|refine Qm 12 (fun _=>true) rfl (QS) (QR) fun K' hK=>?_|refine Qc ?_|refine Qd ?_|refine Qa ?_|((first|refine Qg ⟨_,rfl,fun hc=>?_,fun hc=>?_⟩|refine Qs (fun hc=>?_) (fun hc=>?_)|refine Qt (fun hc=>?_) (fun hc=>?_))<;>first|(cases hc;done)|((try simp only [znz] at hc);first|exact znf|skip))|refine Qi ?_|refine Qf ?_|simp (maxSteps:=1000000) only [go_sem,hpl,c1,c2,hw2,hnl,Int.toNat_natCast,vp,vn,JC]|(refine hK _ ?_;clear hK K')|apply And.intro|((first|apply Qv|apply Jm);(focus first|exact gM|exact (J6 _ zsd).b|exact (JD _ zsd).b|exact (QT _ _ zsd zsd).b))|exact zlo|omega|exact zms)
        all_goals first
          | exact hL2' _ (by simp only [Nat.reduceAdd,ovT,J5,Nat.reduceEqDiff,reduceIte,JA,JW,qV,u32,u33,u34,u35,u36,u37,u38,u39,and_self,and_true,true_and]) (by omega) (by omega) (fun a ha=>by simp only [u32,u33,u34,u35,u36,u37,u38,u39];repeat rw [if_neg (by omega)])
      · rw [Bool.true_and] at hL2'
        repeat' (first|refine Qb fun K' hK=>?_|refine Qe fun K' hK=>?_|refine Ql 12 (fun _=>true) rfl (QS) (QR) fun K' hK=>?_|refine Qm 12 (fun _=>true) rfl (QS) (QR) fun K' hK=>?_|refine Qc ?_|refine Qd ?_|refine Qa ?_|((first|refine Qg ⟨_,rfl,fun hc=>?_,fun hc=>?_⟩|refine Qs (fun hc=>?_) (fun hc=>?_)|refine Qt (fun hc=>?_) (fun hc=>?_))<;>first|(cases hc;done)|((try simp only [znz] at hc);first|exact znf|skip))|refine Qi ?_|refine Qf ?_|simp (maxSteps:=1000000) only [go_sem,hpl,c1,c2,hw2,hnl,Int.toNat_natCast,vp,vn,JC]|(refine hK _ ?_;clear hK K')|apply And.intro|((first|apply Qv|apply Jm);(focus first|exact gM|exact (J6 _ zsd).b|exact (JD _ zsd).b|exact (QT _ _ zsd zsd).b))|exact zlo|omega|exact zms)
        all_goals first
          | exact hL2' _ (by simp only [Nat.reduceAdd,ovT,J5,Nat.reduceEqDiff,reduceIte,JA,JW,qV,u32,u33,u34,u35,u36,u37,u38,u39,and_self,and_true,true_and]) (by omega) (by omega) (fun a ha=>by simp only [u32,u33,u34,u35,u36,u37,u38,u39];repeat rw [if_neg (by omega)])
  have c1:decide ((k:Int) < (l.length:Int)) = false:=decide_eq_false (by have:=Xx hd;omega)
  rw [hd] at hinv
  rw [← hinv]
  simp only [List.any_nil,Bool.false_eq_true,if_false]
  repeat' (first|refine Qb fun K' hK=>?_|refine Qe fun K' hK=>?_|refine Ql 12 (fun _=>true) rfl (QS) (QR) fun K' hK=>?_|refine Qm 12 (fun _=>true) rfl (QS) (QR) fun K' hK=>?_|refine Qc ?_|refine Qd ?_|refine Qa ?_|((first|refine Qg ⟨_,rfl,fun hc=>?_,fun hc=>?_⟩|refine Qs (fun hc=>?_) (fun hc=>?_)|refine Qt (fun hc=>?_) (fun hc=>?_))<;>first|(cases hc;done)|((try simp only [znz] at hc);first|exact znf|skip))|refine Qi ?_|refine Qf ?_|simp (maxSteps:=1000000) only [go_sem,hpl,c1,JC]|(refine hK _ ?_;clear hK K')|apply And.intro|((first|apply Qv|apply Jm);(focus first|exact (J6 _ zsd).b|exact (JD _ zsd).b|exact (QT _ _ zsd zsd).b))|exact zlo|omega|exact zms)
  clear hd hinv hL K1 c1
  refine Xf (ι:=Nat) (fun k=>k≤l.length∧(l.drop k).any ajn = l.any ajn) (fun k=>[(7,V.int k)]) (fun k=>l.length - k) 0 (by omega) ⟨by simp,by simp⟩ (by repeat' first|exact We|refine Vk (by omega) (by simp only [Ob.lt,ltL,V.lt,and_self,and_true];try omega) ?_) (fun i hi=>by simp only [ovT,J5,Nat.reduceEqDiff,reduceIte];(repeat' first|exact Vj|refine Wd ?_ ?_|simp only [V.lt,ltL,and_self,and_true]|omega)) (by simp only [Nat.reduceAdd,ovT,J5,Nat.reduceEqDiff,reduceIte,JA,JW,qV,u32,u33,u34,u35,u36,u37,u38,u39,and_self,and_true,true_and];first|done|rfl) fun k hk K1 hL=>?_
  obtain ⟨hk,hinv⟩:=hk
  simp only [ovT,J5,Nat.reduceEqDiff,reduceIte]
  rcases hd:l.drop k with _|⟨p,r⟩
  case cons =>
    obtain ⟨hk',hget,hr⟩:=Yy hd
    have hst:=yO (p:=ajn) hd
    rw [hinv] at hst
    have hpz:=hl.2 p (List.mem_of_getElem? hget)
    have hw:=Jq (k:=k) (by omega)
    have c1:decide ((k:Int) < (l.length:Int)) = true:=decide_eq_true (by omega)
    have vp:=hgp k p hget
    have hnl:(p.needs.map JS.v).length = p.needs.length:=List.length_map _
    have gN:=(JD p.ver (by have:=hpz.2.1;omega)).b
    repeat' (first|refine Qb fun K' hK=>?_|refine Qe fun K' hK=>?_|refine Ql 12 (fun _=>true) rfl (QS) (QR) fun K' hK=>?_|refine Qm 12 (fun _=>true) rfl (QS) (QR) fun K' hK=>?_|refine Qc ?_|refine Qd ?_|refine Qa ?_|((first|refine Qg ⟨_,rfl,fun hc=>?_,fun hc=>?_⟩|refine Qs (fun hc=>?_) (fun hc=>?_)|refine Qt (fun hc=>?_) (fun hc=>?_))<;>first|(cases hc;done)|((try simp only [znz] at hc);first|exact znf|skip))|refine Qi ?_|refine Qf ?_|simp (maxSteps:=1000000) only [go_sem,hpl,c1,Int.toNat_natCast,vp,JC]|(refine hK _ ?_;clear hK K')|apply And.intro|((first|apply Qv|apply Jm);(focus first|exact gN|exact (J6 _ zsd).b|exact (JD _ zsd).b|exact (QT _ _ zsd zsd).b))|exact zlo|omega|exact zms)
    refine Xf (ι:=Nat) (fun m=>m≤p.needs.length) (fun m=>[(8,V.bool (UL p.ver && (p.needs.take m).all fun n=>Wt n.lo n.up)),(9,V.int m)]) (fun m=>p.needs.length - m) 0 (by omega) (by omega) (by repeat' first|exact We|refine Vk (by omega) (by simp only [Ob.lt,ltL,V.lt,and_self,and_true];try omega) ?_) (fun i hi=>by simp only [ovT,J5,Nat.reduceEqDiff,reduceIte];(repeat' first|exact Vj|refine Wd ?_ ?_|simp only [V.lt,ltL,and_self,and_true]|omega)) (by simp only [Nat.reduceAdd,ovT,J5,Nat.reduceEqDiff,reduceIte,JA,JW,qV,u32,u33,u34,u35,u36,u37,u38,u39,and_self,and_true,true_and];first|done|(simp;done)|rfl) fun m hm K2 hL2=>?_
    simp only [ovT,J5,Nat.reduceEqDiff,reduceIte]
    by_cases hme:m = p.needs.length
    · have c2:decide ((m:Int) < (p.needs.length:Int)) = false:=decide_eq_false (by omega)
      rw [hme,List.take_length]
      have hmn:=am5 p
      rcases hb2:(UL p.ver && p.needs.all fun n=>Wt n.lo n.up) with _|_
      · rw [hb2] at hmn
        rw [hmn,Bool.not_false,Bool.true_or] at hst
        rw [hst]
        repeat' (first|refine Qb fun K' hK=>?_|refine Qe fun K' hK=>?_|refine Ql 12 (fun _=>true) rfl (QS) (QR) fun K' hK=>?_|refine Qm 12 (fun _=>true) rfl (QS) (QR) fun K' hK=>?_|refine Qc ?_|refine Qd ?_|refine Qa ?_|((first|refine Qg ⟨_,rfl,fun hc=>?_,fun hc=>?_⟩|refine Qs (fun hc=>?_) (fun hc=>?_)|refine Qt (fun hc=>?_) (fun hc=>?_))<;>first|(cases hc;done)|((try simp only [znz] at hc);first|exact znf|skip))|refine Qi ?_|refine Qf ?_|simp (maxSteps:=1000000) only [go_sem,hpl,c1,c2,hw,hme,hnl,Int.toNat_natCast,vp,JC]|(refine hK _ ?_;clear hK K')|apply And.intro|((first|apply Qv|apply Jm);(focus first|exact (J6 _ zsd).b|exact (JD _ zsd).b|exact (QT _ _ zsd zsd).b))|exact zlo|omega|exact zms)
        all_goals first|(refine QM _ rfl ?_;simp only [go_sem];done)
      · rw [hb2] at hmn
        rw [hmn,Bool.not_true,Bool.false_or] at hst
        repeat' (first|refine Qb fun K' hK=>?_|refine Qe fun K' hK=>?_|refine Ql 12 (fun _=>true) rfl (QS) (QR) fun K' hK=>?_|refine Qm 12 (fun _=>true) rfl (QS) (QR) fun K' hK=>?_|refine Qc ?_|refine Qd ?_|refine Qa ?_|((first|refine Qg ⟨_,rfl,fun hc=>?_,fun hc=>?_⟩|refine Qs (fun hc=>?_) (fun hc=>?_)|refine Qt (fun hc=>?_) (fun hc=>?_))<;>first|(cases hc;done)|((try simp only [znz] at hc);first|exact znf|skip))|refine Qi ?_|refine Qf ?_|simp (maxSteps:=1000000) only [go_sem,hpl,c1,c2,hw,hme,hnl,Int.toNat_natCast,vp,JC]|(refine hK _ ?_;clear hK K')|apply And.intro|((first|apply Qv|apply Jm);(focus first|exact (J6 _ zsd).b|exact (JD _ zsd).b|exact (QT _ _ zsd zsd).b))|exact zlo|omega|exact zms)
        all_goals first
          | exact hL _ (k + 1) (by simp only [Nat.reduceAdd,ovT,J5,Nat.reduceEqDiff,reduceIte,JA,JW,qV,u32,u33,u34,u35,u36,u37,u38,u39,and_self,and_true,true_and]) ⟨by omega,hst.symm⟩ (by omega) (fun a ha=>by simp only [u32,u33,u34,u35,u36,u37,u38,u39];repeat rw [if_neg (by omega)])
    · have c2:decide ((m:Int) < (p.needs.length:Int)) = true:=decide_eq_true (by omega)
      obtain ⟨n,hn⟩:∃ n,p.needs[m]? = some n:=⟨p.needs[m],List.getElem?_eq_getElem (by omega)⟩
      have vn:=hgn p.needs m n hn
      have hw2:=Jq (k:=m) (by have:=hpz.2.2.1;omega)
      have gM:=(QT n.lo n.up (hpz.2.2.2 n (List.mem_of_getElem? hn)).2.1 (hpz.2.2.2 n (List.mem_of_getElem? hn)).2.2).b
      simp only [ye] at gM
      have hall:(p.needs.take (m + 1)).all (fun n=>Wt n.lo n.up) = ((p.needs.take m).all (fun n=>Wt n.lo n.up) && Wt n.lo n.up):=agQ hn
      have hL2':=fun (s':St)=>hL2 s' (m + 1)
      rw [hall,← Bool.and_assoc] at hL2'
      generalize (UL p.ver && (p.needs.take m).all fun n=>Wt n.lo n.up) = bb at *
      rcases bb with _|_
      · rw [Bool.false_and] at hL2'
        repeat' (first|refine Qb fun K' hK=>?_|refine Qe fun K' hK=>?_|refine Ql 12 (fun _=>true) rfl (QS) (QR) fun K' hK=>?_|refine Qm 12 (fun _=>true) rfl (QS) (QR) fun K' hK=>?_|refine Qc ?_|refine Qd ?_|refine Qa ?_|((first|refine Qg ⟨_,rfl,fun hc=>?_,fun hc=>?_⟩|refine Qs (fun hc=>?_) (fun hc=>?_)|refine Qt (fun hc=>?_) (fun hc=>?_))<;>first|(cases hc;done)|((try simp only [znz] at hc);first|exact znf|skip))|refine Qi ?_|refine Qf ?_|simp (maxSteps:=1000000) only [go_sem,hpl,c1,c2,hw2,hnl,Int.toNat_natCast,vp,vn,JC]|(refine hK _ ?_;clear hK K')|apply And.intro|((first|apply Qv|apply Jm);(focus first|exact gM|exact (J6 _ zsd).b|exact (JD _ zsd).b|exact (QT _ _ zsd zsd).b))|exact zlo|omega|exact zms)
        all_goals first
          | exact hL2' _ (by simp only [Nat.reduceAdd,ovT,J5,Nat.reduceEqDiff,reduceIte,JA,JW,qV,u32,u33,u34,u35,u36,u37,u38,u39,and_self,and_true,true_and]) (by omega) (by omega) (fun a ha=>by simp only [u32,u33,u34,u35,u36,u37,u38,u39];repeat rw [if_neg (by omega)])
      · rw [Bool.true_and] at hL2'
        repeat' (first|refine Qb fun K' hK=>?_|refine Qe fun K' hK=>?_|refine Ql 12 (fun _=>true) rfl (QS) (QR) fun K' hK=>?_|refine Qm 12 (fun _=>true) rfl (QS) (QR) fun K' hK=>?_|refine Qc ?_|refine Qd ?_|refine Qa ?_|((first|refine Qg ⟨_,rfl,fun hc=>?_,fun hc=>?_⟩|refine Qs (fun hc=>?_) (fun hc=>?_)|refine Qt (fun hc=>?_) (fun hc=>?_))<;>first|(cases hc;done)|((try simp only [znz] at hc);first|exact znf|skip))|refine Qi ?_|refine Qf ?_|simp (maxSteps:=1000000) only [go_sem,hpl,c1,c2,hw2,hnl,Int.toNat_natCast,vp,vn,JC]|(refine hK _ ?_;clear hK K')|apply And.intro|((first|apply Qv|apply Jm);(focus first|exact gM|exact (J6 _ zsd).b|exact (JD _ zsd).b|exact (QT _ _ zsd zsd).b))|exact zlo|omega|exact zms)
        all_goals first
          | exact hL2' _ (by simp only [Nat.reduceAdd,ovT,J5,Nat.reduceEqDiff,reduceIte,JA,JW,qV,u32,u33,u34,u35,u36,u37,u38,u39,and_self,and_true,true_and]) (by omega) (by omega) (fun a ha=>by simp only [u32,u33,u34,u35,u36,u37,u38,u39];repeat rw [if_neg (by omega)])
  have c1:decide ((k:Int) < (l.length:Int)) = false:=decide_eq_false (by have:=Xx hd;omega)
  rw [hd] at hinv
  rw [← hinv]
  simp only [List.any_nil,Bool.false_eq_true,if_false]
  repeat' (first|refine Qb fun K' hK=>?_|refine Qe fun K' hK=>?_|refine Ql 12 (fun _=>true) rfl (QS) (QR) fun K' hK=>?_|refine Qm 12 (fun _=>true) rfl (QS) (QR) fun K' hK=>?_|refine Qc ?_|refine Qd ?_|refine Qa ?_|((first|refine Qg ⟨_,rfl,fun hc=>?_,fun hc=>?_⟩|refine Qs (fun hc=>?_) (fun hc=>?_)|refine Qt (fun hc=>?_) (fun hc=>?_))<;>first|(cases hc;done)|((try simp only [znz] at hc);first|exact znf|skip))|refine Qi ?_|refine Qf ?_|simp (maxSteps:=1000000) only [go_sem,hpl,c1,JC]|(refine hK _ ?_;clear hK K')|apply And.intro|((first|apply Qv|apply Jm);(focus first|exact (J6 _ zsd).b|exact (JD _ zsd).b|exact (QT _ _ zsd zsd).b))|exact zlo|omega|exact zms)
  clear hd hinv hL K1 c1
  refine Xf (ι:=Nat) (fun k=>1≤k∧(k≤l.length∨k = 1)∧YZ (l.drop (k - 1)) = YZ l) (fun k=>[(10,V.int k)]) (fun k=>l.length - k) 1 (by omega) ⟨by omega,.inr rfl,by simp⟩ (by repeat' first|exact We|refine Vk (by omega) (by simp only [Ob.lt,ltL,V.lt,and_self,and_true];try omega) ?_) (fun i hi=>by simp only [ovT,J5,Nat.reduceEqDiff,reduceIte];(repeat' first|exact Vj|refine Wd ?_ ?_|simp only [V.lt,ltL,and_self,and_true]|omega)) (by simp only [Nat.reduceAdd,ovT,J5,Nat.reduceEqDiff,reduceIte,JA,JW,qV,u32,u33,u34,u35,u36,u37,u38,u39,and_self,and_true,true_and];first|done|rfl) fun k hk K1 hL=>?_
  obtain ⟨hk1,hk2,hinv⟩:=hk
  simp only [ovT,J5,Nat.reduceEqDiff,reduceIte]
  by_cases hkl:k < l.length
  · have c1:decide ((k:Int) < (l.length:Int)) = true:=decide_eq_true (by omega)
    have hw:=Jq (k:=k) (by omega)
    obtain ⟨j,rfl⟩:∃ j,k = j + 1:=⟨k - 1,by omega⟩
    have hj:(l.drop j) = l[j] :: l[j + 1] :: l.drop (j + 2):=by rw [List.drop_eq_getElem_cons (by omega),List.drop_eq_getElem_cons (by omega)]
    have hga:=hgp j l[j] (List.getElem?_eq_getElem (by omega))
    have hgb:=hgp (j + 1) l[j + 1] (List.getElem?_eq_getElem (by omega))
    have hdd:l.drop (j + 1) = l[j + 1] :: l.drop (j + 2):=by rw [List.drop_eq_getElem_cons (by omega)]
    rw [Nat.add_sub_cancel,hj,YZ,← hdd] at hinv
    have hw2:IntKind.i64.wrap (((j + 1:Nat):Int) - 1) = (j:Int):=by rw [WW (by omega) (by omega)];omega
    generalize l[j] = a at *
    generalize l[j + 1] = b at *
    rcases hlt:Op.bytesLess a.name b.name with _|_
    · rw [hlt] at hinv
      have:YZ l = true:=by rw [← hinv];rfl
      rw [this]
      repeat' (first|refine Qb fun K' hK=>?_|refine Qe fun K' hK=>?_|refine Ql 12 (fun _=>true) rfl (QS) (QR) fun K' hK=>?_|refine Qm 12 (fun _=>true) rfl (QS) (QR) fun K' hK=>?_|refine Qc ?_|refine Qd ?_|refine Qa ?_|((first|refine Qg ⟨_,rfl,fun hc=>?_,fun hc=>?_⟩|refine Qs (fun hc=>?_) (fun hc=>?_)|refine Qt (fun hc=>?_) (fun hc=>?_))<;>first|(cases hc;done)|((try simp only [znz] at hc);first|exact znf|skip))|refine Qi ?_|refine Qf ?_|simp (maxSteps:=1000000) only [go_sem,hpl,c1,hw,hw2,hga,hgb,hlt,Int.toNat_natCast,JC]|(refine hK _ ?_;clear hK K')|apply And.intro|((first|apply Qv|apply Jm);(focus first|exact (J6 _ zsd).b|exact (JD _ zsd).b|exact (QT _ _ zsd zsd).b))|exact zlo|omega|exact zms)
      all_goals first|(refine QM _ rfl ?_;simp only [go_sem];done)
    · rw [hlt] at hinv
      repeat' (first|refine Qb fun K' hK=>?_|refine Qe fun K' hK=>?_|refine Ql 12 (fun _=>true) rfl (QS) (QR) fun K' hK=>?_|refine Qm 12 (fun _=>true) rfl (QS) (QR) fun K' hK=>?_|refine Qc ?_|refine Qd ?_|refine Qa ?_|((first|refine Qg ⟨_,rfl,fun hc=>?_,fun hc=>?_⟩|refine Qs (fun hc=>?_) (fun hc=>?_)|refine Qt (fun hc=>?_) (fun hc=>?_))<;>first|(cases hc;done)|((try simp only [znz] at hc);first|exact znf|skip))|refine Qi ?_|refine Qf ?_|simp (maxSteps:=1000000) only [go_sem,hpl,c1,hw,hw2,hga,hgb,hlt,Int.toNat_natCast,JC]|(refine hK _ ?_;clear hK K')|apply And.intro|((first|apply Qv|apply Jm);(focus first|exact (J6 _ zsd).b|exact (JD _ zsd).b|exact (QT _ _ zsd zsd).b))|exact zlo|omega|exact zms)
      all_goals first|exact hL _ (j + 1 + 1) (by simp only [Nat.reduceAdd,ovT,J5,Nat.reduceEqDiff,reduceIte,JA,JW,qV,u32,u33,u34,u35,u36,u37,u38,u39,and_self,and_true,true_and]) ⟨by omega,.inl (by omega),by simpa using hinv⟩ (by omega) (fun a ha=>by simp only [u32,u33,u34,u35,u36,u37,u38,u39];repeat rw [if_neg (by omega)])
  · have c1:decide ((k:Int) < (l.length:Int)) = false:=decide_eq_false (by omega)
    rw [aat (by simp;omega)] at hinv
    rw [← hinv]
    repeat' (first|refine Qb fun K' hK=>?_|refine Qe fun K' hK=>?_|refine Ql 12 (fun _=>true) rfl (QS) (QR) fun K' hK=>?_|refine Qm 12 (fun _=>true) rfl (QS) (QR) fun K' hK=>?_|refine Qc ?_|refine Qd ?_|refine Qa ?_|((first|refine Qg ⟨_,rfl,fun hc=>?_,fun hc=>?_⟩|refine Qs (fun hc=>?_) (fun hc=>?_)|refine Qt (fun hc=>?_) (fun hc=>?_))<;>first|(cases hc;done)|((try simp only [znz] at hc);first|exact znf|skip))|refine Qi ?_|refine Qf ?_|simp (maxSteps:=1000000) only [go_sem,hpl,c1,JC]|(refine hK _ ?_;clear hK K')|apply And.intro|((first|apply Qv|apply Jm);(focus first|exact (J6 _ zsd).b|exact (JD _ zsd).b|exact (QT _ _ zsd zsd).b))|exact zlo|omega|exact zms)
    all_goals first|(refine QM _ rfl ?_;simp only [go_sem];done)
end Av
end
section
set_option linter.unusedSimpArgs false
set_option linter.unusedVariables false
set_option maxRecDepth 10000
set_option maxHeartbeats 4000000
namespace Av
open Go
attribute [local irreducible] AWp WY Vp Vq awS awC V1 awQ Uh Q9 YQ VZ awR YT awB okR Ww ris
theorem am7 (l:List Qu) (p:Qu):yf l p = !(p.needs.all fun n=>decide (KN l n≥0)):=by
  unfold yf
  induction p.needs with
  | nil=>rfl
  | cons n r ih =>
    rw [List.any_cons,List.all_cons,Bool.not_and,ih]
    congr 1
    by_cases h:KN l n < 0
    · rw [decide_eq_true h,decide_eq_false (by omega)];rfl
    · rw [decide_eq_false h,decide_eq_true (by omega)];rfl
def ao2 (l:List Qu) (k:Nat):St:=Xy [(0,.sl 3 (l.map Qu.v)),(5,.hd 0 0 (((l.take k).filter (yf l)).map Qu.name).length),(6,V.int k)] [(0,.buf true 1 ((((l.take k).filter (yf l)).map Qu.name).map V.str))] 1
def adu (l:List Qu) (ns:List (List UInt8)) (k:Nat) (b:Bool) (m:Nat):St:=Xy [(0,.sl 3 (l.map Qu.v)),(5,.hd 0 0 ns.length),(6,V.int k),(7,V.bool b),(8,V.int m)] [(0,.buf true 1 (ns.map V.str))] 1
def yC (Ya Uc:Nat):AC:=Qo [0] (.reg [xo 2 (.mknil 1),mc 3 (V.int 0)]) (Qo [0] (Qo [0,4] (.reg [mv 9 0,cl 10 Ya [9],mv 4 10]) (Qo [0,4,12] (.reg [mv 11 4,bc 12 .neq 11 (V.int 0)]) (.cond (.t 12) (Qo [2,3] (.reg [mv 13 4,xo 2 (.mknil 1),mv 3 13]) (.ret)) (.skip)))) (Qo [0,5] (.reg [xo 5 (.mknil 1)]) (Qo [5] (Qo [0,5,6] (.reg [mc 6 (V.int 0)]) (.block 0 (X1 [0,5,6] (Qo [0,5,6] (Qo [0,5,6,17] (.reg [mv 14 6,mv 15 0,ln 16 15,bn 17 .lss 14 16]) (.cond (.t 17) (.skip) (.exit 0))) (Qo [0,5,6] (.block 1 (Qo [0,5,6,7] (.reg [mc 7 (V.bool true)]) (Qo [0,5,6,7] (Qo [0,5,6,7,8] (.reg [mc 8 (V.int 0)]) (.block 2 (X1 [0,5,6,7,8] (Qo [0,5,6,7,8] (Qo [0,5,6,7,8,27] (.reg [mv 20 8,mv 21 0,mv 22 6,ia 23 3 21 22,fa 24 2 23,ld 25 1 24,ln 26 25,bn 27 .lss 20 26]) (.cond (.t 27) (.skip) (.exit 2))) (Qo [0,5,6,7,8] (.block 3 (.reg [mv 30 7,mv 31 30,mg 32 0 31 true,mg 33 0 31 true,mg 34 6 31 true,xg 35 (.iaddr 3 (.t 33) (.t 34)) 31 true,xg 36 (.faddr 2 (.t 35)) 31 true,xg 37 (.load false 1 (.t 36)) 31 true,mg 38 8 31 true,xg 39 (.iaddr 3 (.t 37) (.t 38)) 31 true,xg 40 (.load true 3 (.t 39)) 31 true,xg 41 (.call Uc [(.t 32),(.t 40)]) 31 true,xg 42 (.bin .geq (.t 41) (.c (V.int 0))) 31 true,xo 43 (.pick (.t 31) (.t 42) (.c (V.bool false))),mv 7 43])) (.reg [mv 28 8,bc 29 .add 28 (V.int 1),mv 8 29])))))) (Qo [0,5,6,45] (.reg [mv 44 7,xo 45 (.un .not (.t 44))]) (.cond (.t 45) (.reg [mv 46 5,mv 47 0,mv 48 6,ia 49 3 47 48,fa 50 0 49,ld 51 1 50,xo 52 (.bslice 1 1 false [(.string ⟨#[]⟩)] [(0,(.t 51))]),xo 53 (.append 1 16 [(.string ⟨#[]⟩)] (.t 46) (.t 52)),mv 5 53]) (.skip)))))) (.reg [mv 18 6,bc 19 .add 18 (V.int 1),mv 6 19])))))) (Qo [2,3] (.reg [mv 54 5,mv 2 54,mc 3 (V.int 0)]) (.ret))))) def r_ref12_Missing:List X0:=[.tmp 2,.tmp 3]
def j5 (Γ:Env) (f:Nat):Prop:=∀ (l:List Qu) (hl:PSz l),EvC Γ f [.sl 3 (l.map Qu.v)] (ahk l)
theorem adI {Γ:Env} {f Ya Uc:Nat} (h:Has Γ.P f 55 (yC Ya Uc) r_ref12_Missing) (QV:Uy Γ Ya) (J9:xm Γ Uc):j5 Γ f:=by
  intro l hl
  refine W1 h (by simp) (adm _) fun C hC hm=>?_
  subst hC
  unfold yC
  have gc:=(QV l hl).b
  have hlen:=hl.1
  have hpl:(l.map Qu.v).length = l.length:=List.length_map _
  unfold ahk
  by_cases hc0:Y8 l = 0
  · have hu:=xk hc0
    have h64:l.length≤64:=by
      rcases Nat.lt_or_ge 64 l.length with h|h
      · have e:decide ((l.length:Int) > 64) = true:=decide_eq_true (by omega)
        rw [Y8,e,Bool.true_or,if_pos rfl] at hc0
        exact absurd hc0 (by decide)
      · exact h
    rw [hc0] at gc
    rw [if_pos hc0]
    repeat' (first|refine Qb fun K' hK=>?_|refine Qe fun K' hK=>?_|refine Qc ?_|refine Qd ?_|refine Qa ?_|((first|refine Qg ⟨_,rfl,fun hc=>?_,fun hc=>?_⟩|refine Qs (fun hc=>?_) (fun hc=>?_)|refine Qt (fun hc=>?_) (fun hc=>?_))<;>first|(cases hc;done)|((try simp only [znz] at hc);first|exact znf|skip))|refine Qi ?_|refine Qf ?_|simp (maxSteps:=1000000) only [go_sem]|(refine hK _ ?_;clear hK K')|apply And.intro|(apply Qv;(focus first|exact gc|exact (QV _ zsd).b|exact (J9 _ _ zsd zsd zsd).b))|exact zlo|omega|exact zms)
    refine JR (ι:=Nat) (fun k=>k≤l.length) (fun k=>ao2 l k) (fun k=>l.length - k) 0 (by omega) (QO [(0,7000)]) (JE [(0,7000)] (by simp only [go_sem,and_true,true_and,implies_true,Option.some.injEq,exists_eq_left',Qh,Qj,ao2];(repeat' (first|rfl|apply And.intro|omega|exact fun h=>h|exact Exists.intro _ rfl))) (by simp only [go_sem,and_true,true_and,implies_true,Option.some.injEq,exists_eq_left',Qh,Qj,ao2];(repeat' (first|rfl|apply And.intro|omega|exact fun h=>h|exact Exists.intro _ rfl))) (by simp [QO]) (by simp;omega) (by omega)) fun k hk K' hL=>?_
    rcases hd:l.drop k with _|⟨p,r⟩
    · have hkl:=Xx hd
      have e1:decide ((k:Int) < (l.length:Int)) = false:=by simp;omega
      have e3:l.take k = l:=List.take_of_length_le hkl
      unfold ao2
      rw [e3]
      repeat' (first|refine Qb fun K' hK=>?_|refine Qe fun K' hK=>?_|refine Qc ?_|refine Qd ?_|refine Qa ?_|((first|refine Qg ⟨_,rfl,fun hc=>?_,fun hc=>?_⟩|refine Qs (fun hc=>?_) (fun hc=>?_)|refine Qt (fun hc=>?_) (fun hc=>?_))<;>first|(cases hc;done)|((try simp only [znz] at hc);first|exact znf|skip))|refine Qi ?_|refine Qf ?_|simp (maxSteps:=1000000) only [go_sem,Xy,hpl,e1,VF]|(refine hK _ ?_;clear hK K')|apply And.intro|(apply Qv;(focus first|exact (QV _ zsd).b|exact (J9 _ _ zsd zsd zsd).b))|exact zlo|omega|exact zms)
      all_goals first|(refine QM _ rfl ?_;simp only [go_sem];rw [VF];first|done|rfl|exact ⟨_,_,rfl⟩)
    · obtain ⟨hk',hget,hr⟩:=Yy hd
      have hw:=Jq (k:=k) (by omega)
      have e1:decide ((k:Int) < (l.length:Int)) = true:=by simp;omega
      have hp:=hl.2 p (List.mem_of_getElem? hget)
      have vp:(l.map Qu.v)[k]? = some (.agg [V.str p.name,.sl 1 (p.ver.map V.int),.sl 3 (p.needs.map JS.v)]):=by rw [List.getElem?_map,hget];rfl
      have hnn:(p.needs.map JS.v).length = p.needs.length:=List.length_map _
      have hnl:(((l.take k).filter (yf l)).map Qu.name).length≤k:=by
        rw [List.length_map]
        exact Nat.le_trans (List.length_filter_le _ _) (by simp;omega)
      have htk:(l.take (k + 1)).filter (yf l) = (l.take k).filter (yf l)++(if yf l p = true then [p] else []):=by
        rw [List.take_add_one,hget,List.filter_append];simp only [Option.toList,List.filter_cons,List.filter_nil]
      have hns:((l.take (k + 1)).filter (yf l)).map Qu.name = ((l.take k).filter (yf l)).map Qu.name++(if yf l p = true then [p.name] else []):=by
        rw [htk,List.map_append];split<;>rfl
      have hL':∀ (s':St) (τ:Nat→Nat),afe C.m τ s' (ao2 l (k + 1))→K' s':=fun s' τ hw=>hL s' (k + 1) τ (by omega) (by omega) hw
      unfold ao2 at hL' ⊢
      rw [hns] at hL'
      generalize ((l.take k).filter (yf l)).map Qu.name = ns at *
      repeat' (first|refine Qb fun K' hK=>?_|refine Qe fun K' hK=>?_|refine Qc ?_|refine Qd ?_|refine Qa ?_|((first|refine Qg ⟨_,rfl,fun hc=>?_,fun hc=>?_⟩|refine Qs (fun hc=>?_) (fun hc=>?_)|refine Qt (fun hc=>?_) (fun hc=>?_))<;>first|(cases hc;done)|((try simp only [znz] at hc);first|exact znf|skip))|refine Qi ?_|refine Qf ?_|simp (maxSteps:=1000000) only [go_sem,Xy,hpl,e1]|(refine hK _ ?_;clear hK K')|apply And.intro|(apply Qv;(focus first|exact (QV _ zsd).b|exact (J9 _ _ zsd zsd zsd).b))|exact zlo|omega|exact zms)
      refine JR (ι:=Nat) (fun m=>m≤p.needs.length) (fun m=>adu l ns k ((p.needs.take m).all fun n=>decide (KN l n≥0)) m) (fun m=>p.needs.length - m) 0 (by omega) (QO []) (JE [] (by simp only [go_sem,and_true,true_and,implies_true,Option.some.injEq,exists_eq_left',Qh,Qj,adu];(repeat' (first|rfl|apply And.intro|omega|exact fun h=>h|exact Exists.intro _ rfl))) (by simp only [go_sem,and_true,true_and,implies_true,Option.some.injEq,exists_eq_left',Qh,Qj,adu];(repeat' (first|rfl|apply And.intro|omega|exact fun h=>h|exact Exists.intro _ rfl))) (by simp [QO]) (by simp) (by omega)) fun m hm2 K2 hL2=>?_
      by_cases hme:m = p.needs.length
      · have e2:decide ((m:Int) < (p.needs.length:Int)) = false:=decide_eq_false (by omega)
        have hlk:=am7 l p
        rw [hme,List.take_length]
        rcases hb:(p.needs.all fun n=>decide (KN l n≥0)) with _|_
        · rw [hb,Bool.not_false] at hlk
          rw [if_pos hlk] at hL'
          have hbb:List.map V.str ns++[V.str p.name] = (ns++[p.name]).map V.str:=by rw [List.map_append];rfl
          have hln:ns.length + 1 = (ns++[p.name]).length:=by simp
          repeat' (first|refine Qb fun K' hK=>?_|refine Qe fun K' hK=>?_|refine Qc ?_|refine Qd ?_|refine Qa ?_|((first|refine Qg ⟨_,rfl,fun hc=>?_,fun hc=>?_⟩|refine Qs (fun hc=>?_) (fun hc=>?_)|refine Qt (fun hc=>?_) (fun hc=>?_))<;>first|(cases hc;done)|((try simp only [znz] at hc);first|exact znf|skip))|refine Qi ?_|refine Qf ?_|simp (maxSteps:=1000000) only [go_sem,adu,Xy,hpl,e2,hme,hw,Int.toNat_natCast,vp,hnn,VF,hbb,hln]|(refine hK _ ?_;clear hK K')|apply And.intro|(apply Qv;(focus first|exact (QV _ zsd).b|exact (J9 _ _ zsd zsd zsd).b))|exact zlo|omega|exact zms)
          all_goals first
            | exact hL' _ (QO [(0,17001)]) (JE [(0,17001)] (by simp only [go_sem,and_true,true_and,implies_true,Option.some.injEq,exists_eq_left',Qh,Qj];(repeat' (first|rfl|apply And.intro|omega|exact fun h=>h|exact Exists.intro _ rfl))) (by simp only [go_sem,and_true,true_and,implies_true,Option.some.injEq,exists_eq_left',Qh,Qj];(repeat' (first|rfl|apply And.intro|omega|exact fun h=>h|exact Exists.intro _ rfl))) (by simp [QO]) (by simp;omega) (by omega))
        · rw [hb,Bool.not_true] at hlk
          rw [if_neg (by simp [hlk]),List.append_nil] at hL'
          repeat' (first|refine Qb fun K' hK=>?_|refine Qe fun K' hK=>?_|refine Qc ?_|refine Qd ?_|refine Qa ?_|((first|refine Qg ⟨_,rfl,fun hc=>?_,fun hc=>?_⟩|refine Qs (fun hc=>?_) (fun hc=>?_)|refine Qt (fun hc=>?_) (fun hc=>?_))<;>first|(cases hc;done)|((try simp only [znz] at hc);first|exact znf|skip))|refine Qi ?_|refine Qf ?_|simp (maxSteps:=1000000) only [go_sem,adu,Xy,hpl,e2,hme,hw,Int.toNat_natCast,vp,hnn]|(refine hK _ ?_;clear hK K')|apply And.intro|(apply Qv;(focus first|exact (QV _ zsd).b|exact (J9 _ _ zsd zsd zsd).b))|exact zlo|omega|exact zms)
          all_goals first
            | exact hL' _ (QO []) (JE [] (by simp only [go_sem,and_true,true_and,implies_true,Option.some.injEq,exists_eq_left',Qh,Qj];(repeat' (first|rfl|apply And.intro|omega|exact fun h=>h|exact Exists.intro _ rfl))) (by simp only [go_sem,and_true,true_and,implies_true,Option.some.injEq,exists_eq_left',Qh,Qj];(repeat' (first|rfl|apply And.intro|omega|exact fun h=>h|exact Exists.intro _ rfl))) (by simp [QO]) (by simp) (by omega))
      · have e2:decide ((m:Int) < (p.needs.length:Int)) = true:=decide_eq_true (by omega)
        obtain ⟨n,hn⟩:∃ n,p.needs[m]? = some n:=⟨p.needs[m],List.getElem?_eq_getElem (by omega)⟩
        have vn:(p.needs.map JS.v)[m]? = some (.agg [V.str n.name,.sl 1 (n.lo.map V.int),.sl 1 (n.up.map V.int)]):=by rw [List.getElem?_map,hn];rfl
        have hw2:=Jq (k:=m) (by have:=hp.2.2.1;omega)
        have gm:=(J9 l n hl (hp.2.2.2 n (List.mem_of_getElem? hn)) hu).b
        simp only [JS.v,JS.cells] at gm
        have hall:(p.needs.take (m + 1)).all (fun n=>decide (KN l n≥0)) = ((p.needs.take m).all (fun n=>decide (KN l n≥0)) && decide (KN l n≥0)):=agQ hn
        have hL2':∀ (s':St) (τ:Nat→Nat),afe C.m τ s' (adu l ns k ((p.needs.take (m + 1)).all fun n=>decide (KN l n≥0)) (m + 1))→K2 s':=fun s' τ hw=>hL2 s' (m + 1) τ (by omega) (by omega) hw
        rw [hall] at hL2'
        generalize ((p.needs.take m).all fun n=>decide (KN l n≥0)) = bb at *
        generalize hmp:KN l n = mp at *
        rcases bb with _|_
        · rw [Bool.false_and] at hL2'
          repeat' (first|refine Qb fun K' hK=>?_|refine Qe fun K' hK=>?_|refine Qc ?_|refine Qd ?_|refine Qa ?_|((first|refine Qg ⟨_,rfl,fun hc=>?_,fun hc=>?_⟩|refine Qs (fun hc=>?_) (fun hc=>?_)|refine Qt (fun hc=>?_) (fun hc=>?_))<;>first|(cases hc;done)|((try simp only [znz] at hc);first|exact znf|skip))|refine Qi ?_|refine Qf ?_|simp (maxSteps:=1000000) only [go_sem,adu,Xy,hpl,e2,hw2,Int.toNat_natCast,vp,vn,hnn]|(refine hK _ ?_;clear hK K')|apply And.intro|(apply Qv;(focus first|exact gm|exact (QV _ zsd).b|exact (J9 _ _ zsd zsd zsd).b))|exact zlo|omega|exact zms)
          all_goals first
            | exact hL2' _ (QO []) (JE [] (by simp only [go_sem,and_true,true_and,implies_true,Option.some.injEq,exists_eq_left',Qh,Qj,adu];(repeat' (first|rfl|apply And.intro|omega|exact fun h=>h|exact Exists.intro _ rfl))) (by simp only [go_sem,and_true,true_and,implies_true,Option.some.injEq,exists_eq_left',Qh,Qj,adu];(repeat' (first|rfl|apply And.intro|omega|exact fun h=>h|exact Exists.intro _ rfl))) (by simp [QO]) (by simp) (by omega))
        · rw [Bool.true_and] at hL2'
          generalize hdd:decide (mp≥0) = dd at *
          repeat' (first|refine Qb fun K' hK=>?_|refine Qe fun K' hK=>?_|refine Qc ?_|refine Qd ?_|refine Qa ?_|((first|refine Qg ⟨_,rfl,fun hc=>?_,fun hc=>?_⟩|refine Qs (fun hc=>?_) (fun hc=>?_)|refine Qt (fun hc=>?_) (fun hc=>?_))<;>first|(cases hc;done)|((try simp only [znz] at hc);first|exact znf|skip))|refine Qi ?_|refine Qf ?_|simp (maxSteps:=1000000) only [go_sem,adu,Xy,hpl,e2,hw2,Int.toNat_natCast,vp,vn,hnn,hdd]|(refine hK _ ?_;clear hK K')|apply And.intro|(apply Qv;(focus first|exact gm|exact (QV _ zsd).b|exact (J9 _ _ zsd zsd zsd).b))|exact zlo|omega|exact zms)
          all_goals first
            | exact hL2' _ (QO []) (JE [] (by simp only [go_sem,and_true,true_and,implies_true,Option.some.injEq,exists_eq_left',Qh,Qj,adu];(repeat' (first|rfl|apply And.intro|omega|exact fun h=>h|exact Exists.intro _ rfl))) (by simp only [go_sem,and_true,true_and,implies_true,Option.some.injEq,exists_eq_left',Qh,Qj,adu];(repeat' (first|rfl|apply And.intro|omega|exact fun h=>h|exact Exists.intro _ rfl))) (by simp [QO]) (by simp) (by omega))
  · have e2:(Y8 l != 0) = true:=by simpa using hc0
    rw [if_neg hc0]
    repeat' (first|refine Qb fun K' hK=>?_|refine Qe fun K' hK=>?_|refine Qc ?_|refine Qd ?_|refine Qa ?_|((first|refine Qg ⟨_,rfl,fun hc=>?_,fun hc=>?_⟩|refine Qs (fun hc=>?_) (fun hc=>?_)|refine Qt (fun hc=>?_) (fun hc=>?_))<;>first|(cases hc;done)|((try simp only [znz] at hc);first|exact znf|skip))|refine Qi ?_|refine Qf ?_|simp (maxSteps:=1000000) only [go_sem,e2]|(refine hK _ ?_;clear hK K')|apply And.intro|(apply Qv;(focus first|exact gc|exact (QV _ zsd).b|exact (J9 _ _ zsd zsd zsd).b))|exact zlo|omega|exact zms)
    all_goals first|(refine QM _ rfl ?_;simp only [go_sem];first|done|rfl|exact ⟨_,_,rfl⟩)
end Av
end
section
set_option linter.unusedSimpArgs false
set_option linter.unusedVariables false
set_option maxRecDepth 10000
set_option maxHeartbeats 4000000
namespace Av
open Go
attribute [local irreducible] AWp WY Vp Vq awS awC V1 awQ Uh Q9 YQ VZ awR YT awB okR Ww ris
def aiR (bs:List Bool):Nat:=bs.count false
theorem ajF:∀ (bs:List Bool) (m:Nat),bs[m]? = some false→aiR (bs.set m true) < aiR bs
  | [],m,h=>by simp at h
  | b :: r,0,h=>by
    simp only [List.getElem?_cons_zero,Option.some.injEq] at h
    subst h
    simp [aiR]
  | b :: r,m + 1,h=>by
    have ih:=ajF r m (by simpa using h)
    unfold aiR at ih ⊢
    rw [List.set_cons_succ,List.count_cons,List.count_cons];omega
noncomputable def aen (l:List Qu) (a:Nat):List Bool:=(List.range l.length).map fun i=>@decide (Rch l a i) (Classical.propDecidable _)
def mk1 (l:List Qu) (a:Nat) (bs:List Bool):Prop:=bs.length = l.length∧bs[a]? = some true∧∀ i:Nat,bs[i]? = some true→Rch l a i
def mkI (l:List Qu) (bs:List Bool) (i:Nat):Prop:=bs[i]? = some true→∀ p,l[i]? = some p→∀ n∈p.needs,∀ m:Nat,KN l n = (m:Int)→bs[m]? = some true
theorem apj {l:List Qu} {a:Nat} {bs:List Bool} (h:mk1 l a bs) (hc:∀ i,i < l.length→mkI l bs i):bs = aen l a:=by
  obtain ⟨h1,h2,h3⟩:=h
  have key:∀ i,Rch l a i→bs[i]? = some true:=by
    intro i hi
    induction hi with
    | refl=>exact h2
    | step hr hp hn hk ih=>exact hc _ (List.getElem?_eq_some_iff.1 hp).1 ih _ hp _ hn _ hk
  refine List.ext_getElem? fun i=>?_
  unfold aen
  by_cases hi:i < l.length
  · rw [List.getElem?_map,List.getElem?_range hi]
    show _ = some _
    obtain ⟨b,hb⟩:∃ b,bs[i]? = some b:=⟨bs[i]'(by omega),List.getElem?_eq_getElem (by omega)⟩
    rw [hb]
    congr 1
    cases b with
    | true=>exact (@decide_eq_true _ (Classical.propDecidable _) (h3 i hb)).symm
    | false =>
      refine (@decide_eq_false _ (Classical.propDecidable _) fun hr=>?_).symm
      rw [key i hr] at hb;cases hb
  · rw [List.getElem?_eq_none (by omega),List.getElem?_eq_none (by simp;omega)]
theorem aor {l:List Qu} {a i m:Nat} {bs:List Bool} {p:Qu} {n:JS} (h:mk1 l a bs) (hi:bs[i]? = some true) (hp:l[i]? = some p) (hn:n∈p.needs) (hm:KN l n = (m:Int)):mk1 l a (bs.set m true):=by
  obtain ⟨h1,h2,h3⟩:=h
  refine ⟨by simpa using h1,?_,fun j hj=>?_⟩
  · rw [List.getElem?_set]
    split
    · rename_i e;subst e
      obtain ⟨h4,_⟩:=List.getElem?_eq_some_iff.1 h2
      rw [if_pos h4]
    · exact h2
  · rw [List.getElem?_set] at hj
    split at hj
    · rename_i e;subst e
      exact .step (h3 i hi) hp hn hm
    · exact h3 j hj
theorem amF {bs:List Bool} {i m:Nat} (hi:bs[i]? = some true):(bs.set m true)[i]? = some true:=by
  rw [List.getElem?_set]
  split
  · rename_i e;subst e
    obtain ⟨h4,_⟩:=List.getElem?_eq_some_iff.1 hi
    rw [if_pos h4]
  · exact hi
def nmB (s:List UInt8) (p:Qu):Bool:=p.name == s
noncomputable def apb (l:List Qu) (s:List UInt8):List Bool:=if Vn l s < 0 then l.map (nmB s) else aen l (Vn l s).toNat
noncomputable def aj4 (l:List Qu) (s:List UInt8):V:=.tup [.sl 1 ((apb l s).map V.bool),V.bool (l.any (nmB s))]
theorem ahb (l:List Qu) (s:List UInt8):(aj4 l s).closed:=by unfold aj4;simp only [V.closed,Qn,and_self]
def rrA (l:List Qu) (s:List UInt8) (bs:List Bool) (k:Nat):St:=Xy [(0,.sl 3 (l.map Qu.v)),(1,V.str s),(6,.hd 0 0 l.length),(7,V.bool ((l.take k).any (nmB s))),(8,V.int k)] [(0,.buf true 1 (bs.map V.bool))] 1
def rrB (l:List Qu) (f:Bool) (bs:List Bool) (ag:Bool):St:=Xy [(0,.sl 3 (l.map Qu.v)),(6,.hd 0 0 l.length),(7,V.bool f),(9,V.bool ag)] [(0,.buf true 1 (bs.map V.bool))] 1
def rrC (l:List Qu) (f:Bool) (bs:List Bool) (ag:Bool) (i:Nat):St:=Xy [(0,.sl 3 (l.map Qu.v)),(6,.hd 0 0 l.length),(7,V.bool f),(9,V.bool ag),(10,V.int i)] [(0,.buf true 1 (bs.map V.bool))] 1
def rrD (l:List Qu) (f:Bool) (bs:List Bool) (ag:Bool) (i k:Nat):St:=Xy [(0,.sl 3 (l.map Qu.v)),(6,.hd 0 0 l.length),(7,V.bool f),(9,V.bool ag),(10,V.int i),(11,V.int k)] [(0,.buf true 1 (bs.map V.bool))] 1
def wC (Uc:Nat):AC:=Qo [0,1] (.reg [xo 4 (.mknil 1),mc 5 (V.bool false)]) (Qo [0,1,6] (.reg [mv 13 0,ln 14 13,xo 15 (.mkslice 1 1 false [(.bool false)] (.t 14) (.t 14)),mv 6 15]) (Qo [0,1,6,7] (.reg [mc 7 (V.bool false)]) (Qo [0,6,7] (Qo [0,1,6,7,8] (.reg [mc 8 (V.int 0)]) (.block 0 (X1 [0,1,6,7,8] (Qo [0,1,6,7,8] (Qo [0,1,6,7,8,19] (.reg [mv 16 8,mv 17 0,ln 18 17,bn 19 .lss 16 18]) (.cond (.t 19) (.skip) (.exit 0))) (Qo [0,1,6,7,8] (.block 1 (Qo [0,1,6,7,8] (.reg [mv 22 6,mv 23 8,mv 24 0,mv 25 8,ia 26 3 24 25,fa 27 0 26,ld 28 1 27,mv 29 1,bn 30 .eql 28 29,ia 31 1 22 23,xs 1 31 30]) (.reg [mv 32 7,mv 33 32,mg 34 6 33 false,mg 35 8 33 false,xg 36 (.iaddr 1 (.t 34) (.t 35)) 33 false,xg 37 (.load false 1 (.t 36)) 33 false,xo 38 (.pick (.t 33) (.c (V.bool true)) (.t 37)),mv 7 38]))) (.reg [mv 20 8,bc 21 .add 20 (V.int 1),mv 8 21])))))) (Qo [6,7] (Qo [0,6,7,9] (.reg [mv 39 7,mv 9 39]) (.block 2 (X1 [0,6,7,9] (Qo [0,6,7] (Qo [0,6,7,40] (.reg [mv 40 9]) (.cond (.t 40) (.skip) (.exit 2))) (.block 3 (Qo [0,6,7,9] (.reg [mc 9 (V.bool false)]) (Qo [0,6,7,9,10] (.reg [mc 10 (V.int 0)]) (.block 4 (X1 [0,6,7,9,10] (Qo [0,6,7,9,10] (Qo [0,6,7,9,10,44] (.reg [mv 41 10,mv 42 0,ln 43 42,bn 44 .lss 41 43]) (.cond (.t 44) (.skip) (.exit 4))) (Qo [0,6,7,9,10] (.block 5 (Qo [0,6,7,9,10,11] (.reg [mc 11 (V.int 0)]) (.block 6 (X1 [0,6,7,9,10,11] (Qo [0,6,7,9,10,11] (Qo [0,6,7,9,10,11,60] (.reg [mv 47 11,mv 48 0,mv 49 10,ia 50 3 48 49,fa 51 2 50,ld 52 1 51,ln 53 52,bn 54 .lss 47 53,mv 55 54,mg 56 6 55 true,mg 57 10 55 true,xg 58 (.iaddr 1 (.t 56) (.t 57)) 55 true,xg 59 (.load false 1 (.t 58)) 55 true,xo 60 (.pick (.t 55) (.t 59) (.c (V.bool false)))]) (.cond (.t 60) (.skip) (.exit 6))) (Qo [0,6,7,9,10,11] (.block 7 (Qo [0,6,7,9,10,11,12] (.reg [mv 63 0,mv 64 0,mv 65 10,ia 66 3 64 65,fa 67 2 66,ld 68 1 67,mv 69 11,ia 70 3 68 69,xo 71 (.load true 3 (.t 70)),cl 72 Uc [63,71],mv 12 72]) (Qo [0,6,7,9,10,11,12,81] (.reg [mv 73 12,bc 74 .geq 73 (V.int 0),mv 75 74,mg 76 6 75 true,mg 77 12 75 true,xg 78 (.iaddr 1 (.t 76) (.t 77)) 75 true,xg 79 (.load false 1 (.t 78)) 75 true,xg 80 (.un .not (.t 79)) 75 true,xo 81 (.pick (.t 75) (.t 80) (.c (V.bool false)))]) (.cond (.t 81) (.reg [mv 82 6,mv 83 12,ia 84 1 82 83,⟨none,.store 1 (.t 84) (.c (V.bool true)),none⟩,mc 9 (V.bool true)]) (.skip))))) (.reg [mv 61 11,bc 62 .add 61 (V.int 1),mv 11 62]))))))) (.reg [mv 45 10,bc 46 .add 45 (V.int 1),mv 10 46])))))))))))) (Qo [4,5] (.reg [mv 85 6,mv 86 7,mv 4 85,mv 5 86]) (.ret)))))) def r_ref12_reach:List X0:=[.tmp 4,.tmp 5]
def jF (Γ:Env) (f:Nat):Prop:=∀ (l:List Qu) (s:List UInt8) (hl:PSz l) (hu:YZ l = false) (h64:l.length≤64),EvC Γ f [.sl 3 (l.map Qu.v),V.str s] (aj4 l s)
theorem afq {Γ:Env} {f Uc:Nat} (h:Has Γ.P f 87 (wC Uc) r_ref12_reach) (J9:xm Γ Uc):jF Γ f:=by
  intro l s hl hu h64
  refine W1 h (by simp) (ahb _ _) fun C hC hm=>?_
  subst hC
  unfold wC
  have hpl:(l.map Qu.v).length = l.length:=List.length_map _
  have hgp:∀ (k:Nat) (p:Qu),l[k]? = some p→(l.map Qu.v)[k]? = some (V.agg [V.str p.name,.sl 1 (p.ver.map V.int),.sl 3 (p.needs.map JS.v)]):=fun k p h=>by rw [List.getElem?_map,h];rfl
  have hgn:∀ (ns:List JS) (k:Nat) (n:JS),ns[k]? = some n→(ns.map JS.v)[k]? = some (V.agg [V.str n.name,.sl 1 (n.lo.map V.int),.sl 1 (n.up.map V.int)]):=fun ns k n h=>by rw [List.getElem?_map,h];rfl
  repeat' (first|refine Qb fun K' hK=>?_|refine Qe fun K' hK=>?_|refine Qc ?_|refine Qd ?_|refine Qa ?_|((first|refine Qg ⟨_,rfl,fun hc=>?_,fun hc=>?_⟩|refine Qs (fun hc=>?_) (fun hc=>?_)|refine Qt (fun hc=>?_) (fun hc=>?_))<;>first|(cases hc;done)|((try simp only [znz] at hc);first|exact znf|skip))|refine Qi ?_|refine Qf ?_|simp (maxSteps:=1000000) only [go_sem,hpl]|(refine hK _ ?_;clear hK K')|apply And.intro|(apply Qv;(focus first|exact (J9 _ _ zsd zsd zsd).b))|exact zlo|omega|exact zms)
  have hrep:(List.replicate l.length false).map V.bool = List.replicate l.length (V.sc (Value.bool false)):=List.map_replicate ..
  refine JR (ι:=List Bool×Nat) (fun q=>q.1.length = l.length∧q.2≤l.length∧∀ i,i < q.2→q.1[i]? = (l[i]?).map (nmB s)) (fun q=>rrA l s q.1 q.2) (fun q=>l.length - q.2) (List.replicate l.length false,0) ⟨by simp,by simp,fun i hi=>by simp at hi⟩ (QO [(0,4000)]) (JE [(0,4000)] (by simp only [go_sem,and_true,true_and,implies_true,Option.some.injEq,exists_eq_left',Qh,Qj,rrA];(repeat' (first|rfl|apply And.intro|omega|exact fun h=>h|exact Exists.intro _ rfl))) (by simp only [go_sem,and_true,true_and,implies_true,Option.some.injEq,exists_eq_left',Qh,Qj,rrA,hrep,List.headD_cons];(repeat' (first|rfl|apply And.intro|omega|exact fun h=>h|exact Exists.intro _ rfl))) (by simp [QO]) (by simp;omega) (by omega)) fun q hq K1 hL1=>?_
  obtain ⟨bs,k⟩:=q
  obtain ⟨hbl,hk,hbi⟩:=hq
  dsimp only at hbl hk hbi
  have hbm:(bs.map V.bool).length = l.length:=by rw [List.length_map];exact hbl
  by_cases hke:k = l.length
  case neg =>
    have c1:decide ((k:Int) < (l.length:Int)) = true:=decide_eq_true (by omega)
    obtain ⟨p,hp⟩:∃ p,l[k]? = some p:=⟨l[k],List.getElem?_eq_getElem (by omega)⟩
    have vp:=hgp k p hp
    have hw:=Jq (k:=k) (by omega)
    have hst:(l.take (k + 1)).any (nmB s) = ((l.take k).any (nmB s) || nmB s p):=anC hp
    have hL1':∀ (s':St) (τ:Nat→Nat),afe C.m τ s' (rrA l s (bs.set k (nmB s p)) (k + 1))→K1 s':=fun s' τ hw=>hL1 s' (bs.set k (nmB s p),k + 1) τ ⟨by simpa using hbl,by show k + 1≤_;omega,fun i hi=>by
      show (bs.set k (nmB s p))[i]? = _
      have hi:i < k + 1:=hi
      rw [List.getElem?_set]
      split
      · rename_i e;subst e
        rw [if_pos (by omega),hp];rfl
      · exact hbi i (by omega)⟩ (by show l.length - (k + 1) < l.length - k;omega) hw
    unfold rrA at hL1' ⊢
    rw [hst] at hL1'
    have hset:(bs.map V.bool).set k (V.bool (nmB s p)) = (bs.set k (nmB s p)).map V.bool:=by rw [List.map_set]
    have hsg:((bs.set k (nmB s p)).map V.bool)[k]? = some (V.bool (nmB s p)):=by rw [List.getElem?_map,List.getElem?_set,if_pos rfl,if_pos (by omega)];rfl
    have hnb:(p.name == s) = nmB s p:=rfl
    obtain ⟨b0,hb0⟩:∃ b,bs[k]? = some b:=⟨bs[k]'(by omega),List.getElem?_eq_getElem (by omega)⟩
    have hsk:(bs.map V.bool)[k]? = some (V.sc (Value.bool b0)):=by rw [List.getElem?_map,hb0];rfl
    generalize nmB s p = b at *
    rcases hf:(l.take k).any (nmB s) with _|_
    · rw [hf] at hL1'
      repeat' (first|refine Qb fun K' hK=>?_|refine Qe fun K' hK=>?_|refine Qc ?_|refine Qd ?_|refine Qa ?_|((first|refine Qg ⟨_,rfl,fun hc=>?_,fun hc=>?_⟩|refine Qs (fun hc=>?_) (fun hc=>?_)|refine Qt (fun hc=>?_) (fun hc=>?_))<;>first|(cases hc;done)|((try simp only [znz] at hc);first|exact znf|skip))|refine Qi ?_|refine Qf ?_|simp (maxSteps:=1000000) only [go_sem,Xy,hpl,c1,hw,Int.toNat_natCast,vp,hnb,hset,hsg,hsk,hbm]|(refine hK _ ?_;clear hK K')|apply And.intro|(apply Qv;(focus first|exact (J9 _ _ zsd zsd zsd).b))|exact zlo|omega|exact zms)
      all_goals first
        | exact hL1' _ (QO []) (JE [] (by simp only [go_sem,and_true,true_and,implies_true,Option.some.injEq,exists_eq_left',Qh,Qj];(repeat' (first|rfl|apply And.intro|omega|exact fun h=>h|exact Exists.intro _ rfl))) (by simp only [go_sem,and_true,true_and,implies_true,Option.some.injEq,exists_eq_left',Qh,Qj];(repeat' (first|rfl|apply And.intro|omega|exact fun h=>h|exact Exists.intro _ rfl))) (by simp [QO]) (by simp) (by omega))
    · rw [hf] at hL1'
      repeat' (first|refine Qb fun K' hK=>?_|refine Qe fun K' hK=>?_|refine Qc ?_|refine Qd ?_|refine Qa ?_|((first|refine Qg ⟨_,rfl,fun hc=>?_,fun hc=>?_⟩|refine Qs (fun hc=>?_) (fun hc=>?_)|refine Qt (fun hc=>?_) (fun hc=>?_))<;>first|(cases hc;done)|((try simp only [znz] at hc);first|exact znf|skip))|refine Qi ?_|refine Qf ?_|simp (maxSteps:=1000000) only [go_sem,Xy,hpl,c1,hw,Int.toNat_natCast,vp,hnb,hset,hsg,hsk,hbm]|(refine hK _ ?_;clear hK K')|apply And.intro|(apply Qv;(focus first|exact (J9 _ _ zsd zsd zsd).b))|exact zlo|omega|exact zms)
      all_goals first
        | exact hL1' _ (QO []) (JE [] (by simp only [go_sem,and_true,true_and,implies_true,Option.some.injEq,exists_eq_left',Qh,Qj];(repeat' (first|rfl|apply And.intro|omega|exact fun h=>h|exact Exists.intro _ rfl))) (by simp only [go_sem,and_true,true_and,implies_true,Option.some.injEq,exists_eq_left',Qh,Qj];(repeat' (first|rfl|apply And.intro|omega|exact fun h=>h|exact Exists.intro _ rfl))) (by simp [QO]) (by simp) (by omega))
  have c1:decide ((k:Int) < (l.length:Int)) = false:=decide_eq_false (by omega)
  have hbe:bs = l.map (nmB s):=by
    refine List.ext_getElem? fun i=>?_
    by_cases hi:i < l.length
    · rw [hbi i (by omega),List.getElem?_map]
    · rw [List.getElem?_eq_none (by omega),List.getElem?_eq_none (by simp;omega)]
  unfold rrA
  rw [hke,List.take_length]
  have c3:decide ((l.length:Int) < (l.length:Int)) = false:=decide_eq_false (by omega)
  repeat' (first|refine Qb fun K' hK=>?_|refine Qe fun K' hK=>?_|refine Qc ?_|refine Qd ?_|refine Qa ?_|((first|refine Qg ⟨_,rfl,fun hc=>?_,fun hc=>?_⟩|refine Qs (fun hc=>?_) (fun hc=>?_)|refine Qt (fun hc=>?_) (fun hc=>?_))<;>first|(cases hc;done)|((try simp only [znz] at hc);first|exact znf|skip))|refine Qi ?_|refine Qf ?_|simp (maxSteps:=1000000) only [go_sem,Xy,hpl,c3]|(refine hK _ ?_;clear hK K')|apply And.intro|(apply Qv;(focus first|exact (J9 _ _ zsd zsd zsd).b))|exact zlo|omega|exact zms)
  have hfa:decide (Vn l s≥0) = l.any (nmB s):=yg (nmB s) l 0
  generalize hF:l.any (nmB s) = F at *
  have hmk:∀ a:Nat,Vn l s = (a:Int)→mk1 l a (l.map (nmB s)):=by
    intro a ea
    obtain ⟨j,x,e,hj,hx⟩:=acF (fun q:Qu=>q.name == s) l 0 (by show 0≤Vn l s;omega)
    have e2:Vn l s = (j:Int):=by rw [Vn,e];simp
    have e3:a = j:=by omega
    subst e3
    refine ⟨by simp,by rw [List.getElem?_map,hj];exact congrArg some hx,fun i hi=>?_⟩
    rw [List.getElem?_map] at hi
    obtain ⟨y,hy,hys⟩:=Option.map_eq_some_iff.1 hi
    have:i = a:=acs hu hy hj (by
      have h1:y.name = s:=by unfold nmB at hys;simpa using hys
      have h2:x.name = s:=by simpa using hx
      rw [h1,h2])
    subst this
    exact .refl
  have hno:F = false→∀ i:Nat,(l.map (nmB s))[i]?≠some true:=by
    intro hf i hi
    rw [List.getElem?_map] at hi
    obtain ⟨y,hy,hys⟩:=Option.map_eq_some_iff.1 hi
    have:l.any (nmB s) = true:=List.any_eq_true.2 ⟨y,List.mem_of_getElem? hy,hys⟩
    rw [hF,hf] at this;cases this
  subst hbe
  refine JR (ι:=List Bool×Bool) (fun q=>q.1.length = l.length∧(F = false→q.1 = l.map (nmB s)∧q.2 = false)∧(∀ a:Nat,Vn l s = (a:Int)→mk1 l a q.1)∧(q.2 = false→∀ i,i < l.length→mkI l q.1 i)) (fun q=>rrB l F q.1 q.2) (fun q=>2 * aiR q.1 + (if q.2 = true then 1 else 0)) (l.map (nmB s),F)
    ⟨by simp,fun h=>⟨rfl,h⟩,hmk,fun h i _ hi=>absurd hi (hno h i)⟩ (QO []) (JE [] (by simp only [go_sem,and_true,true_and,implies_true,Option.some.injEq,exists_eq_left',Qh,Qj,rrB];(repeat' (first|rfl|apply And.intro|omega|exact fun h=>h|exact Exists.intro _ rfl))) (by simp only [go_sem,and_true,true_and,implies_true,Option.some.injEq,exists_eq_left',Qh,Qj,rrB];(repeat' (first|rfl|apply And.intro|omega|exact fun h=>h|exact Exists.intro _ rfl))) (by simp [QO]) (by simp) (by omega)) fun q hq K2 hL2=>?_
  obtain ⟨b1,ag⟩:=q
  obtain ⟨hl1,hn1,hm1,hc1⟩:=hq
  dsimp only at hl1 hn1 hm1 hc1
  rcases ag with _|_
  · have hres:b1 = apb l s:=by
      unfold apb
      by_cases hf:Vn l s < 0
      · rw [if_pos hf]
        rw [decide_eq_false (by omega)] at hfa
        exact (hn1 hfa.symm).1
      · rw [if_neg hf]
        exact apj (hm1 _ (by omega)) (hc1 rfl)
    have hbm1:(b1.map V.bool).length = l.length:=by rw [List.length_map];exact hl1
    unfold aj4
    rw [← hres]
    repeat' (first|refine Qb fun K' hK=>?_|refine Qe fun K' hK=>?_|refine Qc ?_|refine Qd ?_|refine Qa ?_|((first|refine Qg ⟨_,rfl,fun hc=>?_,fun hc=>?_⟩|refine Qs (fun hc=>?_) (fun hc=>?_)|refine Qt (fun hc=>?_) (fun hc=>?_))<;>first|(cases hc;done)|((try simp only [znz] at hc);first|exact znf|skip))|refine Qi ?_|refine Qf ?_|simp (maxSteps:=1000000) only [go_sem,rrB,Xy]|(refine hK _ ?_;clear hK K')|apply And.intro|(apply Qv;(focus first|exact (J9 _ _ zsd zsd zsd).b))|exact zlo|omega|exact zms)
    all_goals first|(refine QM _ rfl ?_;simp only [go_sem];rw [List.take_of_length_le (by omega)];first|done|exact ⟨_,_,rfl⟩|simp [hF])
  · have hFt:F = true:=by
      rcases F with _|_
      · exact absurd (hn1 rfl).2 (by decide)
      · rfl
    obtain ⟨a,ea⟩:∃ a:Nat,Vn l s = (a:Int):=⟨(Vn l s).toNat,by
      rw [hFt] at hfa
      have:=of_decide_eq_true hfa
      omega⟩
    have hma:=hm1 a ea
    repeat' (first|refine Qb fun K' hK=>?_|refine Qe fun K' hK=>?_|refine Qc ?_|refine Qd ?_|refine Qa ?_|((first|refine Qg ⟨_,rfl,fun hc=>?_,fun hc=>?_⟩|refine Qs (fun hc=>?_) (fun hc=>?_)|refine Qt (fun hc=>?_) (fun hc=>?_))<;>first|(cases hc;done)|((try simp only [znz] at hc);first|exact znf|skip))|refine Qi ?_|refine Qf ?_|simp (maxSteps:=1000000) only [go_sem,rrB,Xy]|(refine hK _ ?_;clear hK K')|apply And.intro|(apply Qv;(focus first|exact (J9 _ _ zsd zsd zsd).b))|exact zlo|omega|exact zms)
    refine JR (ι:=List Bool×Bool×Nat) (fun q=>mk1 l a q.1∧q.2.2≤l.length∧(q.2.1 = false→q.1 = b1∧∀ j,j < q.2.2→mkI l b1 j)∧(q.2.1 = true→aiR q.1 < aiR b1)) (fun q=>rrC l F q.1 q.2.1 q.2.2) (fun q=>l.length - q.2.2) (b1,false,0)
      ⟨hma,by simp,fun _=>⟨rfl,fun j hj=>by simp at hj⟩,fun h=>by simp at h⟩ (QO []) (JE [] (by simp only [go_sem,and_true,true_and,implies_true,Option.some.injEq,exists_eq_left',Qh,Qj,rrC];(repeat' (first|rfl|apply And.intro|omega|exact fun h=>h|exact Exists.intro _ rfl))) (by simp only [go_sem,and_true,true_and,implies_true,Option.some.injEq,exists_eq_left',Qh,Qj,rrC];(repeat' (first|rfl|apply And.intro|omega|exact fun h=>h|exact Exists.intro _ rfl))) (by simp [QO]) (by simp) (by omega)) fun q hq K3 hL3=>?_
    obtain ⟨b2,ag2,i⟩:=q
    obtain ⟨hm2,hi,hf2,ht2⟩:=hq
    dsimp only at hm2 hi hf2 ht2
    by_cases hie:i = l.length
    · have c2:decide ((i:Int) < (l.length:Int)) = false:=decide_eq_false (by omega)
      repeat' (first|refine Qb fun K' hK=>?_|refine Qe fun K' hK=>?_|refine Qc ?_|refine Qd ?_|refine Qa ?_|((first|refine Qg ⟨_,rfl,fun hc=>?_,fun hc=>?_⟩|refine Qs (fun hc=>?_) (fun hc=>?_)|refine Qt (fun hc=>?_) (fun hc=>?_))<;>first|(cases hc;done)|((try simp only [znz] at hc);first|exact znf|skip))|refine Qi ?_|refine Qf ?_|simp (maxSteps:=1000000) only [go_sem,rrC,Xy,hpl,c2]|(refine hK _ ?_;clear hK K')|apply And.intro|(apply Qv;(focus first|exact (J9 _ _ zsd zsd zsd).b))|exact zlo|omega|exact zms)
      all_goals
        refine hL2 _ (b2,ag2) (QO []) ⟨hm2.1,fun h=>(by rw [hFt] at h;cases h),fun a' ea'=>(show a = a' by omega) ▸ hm2,fun h j hj=>(by have:=hf2 h;rw [this.1];exact this.2 j (by omega))⟩ ?_ (JE [] (by simp only [go_sem,and_true,true_and,implies_true,Option.some.injEq,exists_eq_left',Qh,Qj,rrB];(repeat' (first|rfl|apply And.intro|omega|exact fun h=>h|exact Exists.intro _ rfl))) (by simp only [go_sem,and_true,true_and,implies_true,Option.some.injEq,exists_eq_left',Qh,Qj,rrB];(repeat' (first|rfl|apply And.intro|omega|exact fun h=>h|exact Exists.intro _ rfl))) (by simp [QO]) (by simp) (by omega))
        show 2 * aiR b2 + (if ag2 = true then 1 else 0) < 2 * aiR b1 + (if true = true then 1 else 0)
        rcases ag2 with _|_
        · rw [(hf2 rfl).1];simp
        · have:=ht2 rfl;simp;omega
    · have c2:decide ((i:Int) < (l.length:Int)) = true:=decide_eq_true (by omega)
      obtain ⟨p,hp⟩:∃ p,l[i]? = some p:=⟨l[i],List.getElem?_eq_getElem (by omega)⟩
      have hpz:=hl.2 p (List.mem_of_getElem? hp)
      have vp:=hgp i p hp
      have hw:=Jq (k:=i) (by omega)
      have hnl:(p.needs.map JS.v).length = p.needs.length:=List.length_map _
      repeat' (first|refine Qb fun K' hK=>?_|refine Qe fun K' hK=>?_|refine Qc ?_|refine Qd ?_|refine Qa ?_|((first|refine Qg ⟨_,rfl,fun hc=>?_,fun hc=>?_⟩|refine Qs (fun hc=>?_) (fun hc=>?_)|refine Qt (fun hc=>?_) (fun hc=>?_))<;>first|(cases hc;done)|((try simp only [znz] at hc);first|exact znf|skip))|refine Qi ?_|refine Qf ?_|simp (maxSteps:=1000000) only [go_sem,rrC,Xy,hpl,c2]|(refine hK _ ?_;clear hK K')|apply And.intro|(apply Qv;(focus first|exact (J9 _ _ zsd zsd zsd).b))|exact zlo|omega|exact zms)
      refine JR (ι:=List Bool×Bool×Nat) (fun q=>mk1 l a q.1∧q.2.2≤p.needs.length∧(q.2.1 = false→q.1 = b1∧∀ j,j < i→mkI l b1 j)∧(q.2.1 = true→aiR q.1 < aiR b1)∧∀ n∈p.needs.take q.2.2,∀ m:Nat,KN l n = (m:Int)→q.1[m]? = some true) (fun q=>rrD l F q.1 q.2.1 i q.2.2) (fun q=>p.needs.length - q.2.2) (b2,ag2,0)
        ⟨hm2,by simp,hf2,ht2,fun n hn=>by simp at hn⟩ (QO []) (JE [] (by simp only [go_sem,and_true,true_and,implies_true,Option.some.injEq,exists_eq_left',Qh,Qj,rrD];(repeat' (first|rfl|apply And.intro|omega|exact fun h=>h|exact Exists.intro _ rfl))) (by simp only [go_sem,and_true,true_and,implies_true,Option.some.injEq,exists_eq_left',Qh,Qj,rrD];(repeat' (first|rfl|apply And.intro|omega|exact fun h=>h|exact Exists.intro _ rfl))) (by simp [QO]) (by simp) (by omega)) fun q hq K4 hL4=>?_
      obtain ⟨b3,ag3,k⟩:=q
      obtain ⟨hm3,hk3,hf3,ht3,hn3⟩:=hq
      dsimp only at hm3 hk3 hf3 ht3 hn3
      have hbm3:(b3.map V.bool).length = l.length:=by rw [List.length_map];exact hm3.1
      have hw2:=Jq (k:=k) (by have:=hpz.2.2.1;omega)
      obtain ⟨bi,hbi⟩:∃ b,b3[i]? = some b:=⟨b3[i]'(by have:=hm3.1;omega),List.getElem?_eq_getElem (by have:=hm3.1;omega)⟩
      have vbi:(b3.map V.bool)[i]? = some (V.sc (Value.bool bi)):=by rw [List.getElem?_map,hbi];rfl
      have hout:mkI l b3 i→∀ (s':St) (τ:Nat→Nat),afe C.m τ s' (rrC l F b3 ag3 (i + 1))→K3 s':=fun hmi s' τ hwk=>hL3 s' (b3,ag3,i + 1) τ ⟨hm3,(by show i + 1≤l.length;omega),fun h=>⟨(hf3 h).1,fun j hj=>(by
        have hj:j < i + 1:=hj
        rcases Nat.lt_or_ge j i with h1|h1
        · exact (hf3 h).2 j h1
        · have e:j = i:=by omega
          subst e
          rw [← (hf3 h).1];exact hmi)⟩,ht3⟩ (by show l.length - (i + 1) < l.length - i;omega) hwk
      by_cases hke2:k = p.needs.length
      · have c3:decide ((k:Int) < (p.needs.length:Int)) = false:=decide_eq_false (by omega)
        have hmi:mkI l b3 i:=fun _ p' hp' n hn m hmm=>by
          rw [hp] at hp';cases hp'
          exact hn3 n (by rw [hke2,List.take_length];exact hn) m hmm
        repeat' (first|refine Qb fun K' hK=>?_|refine Qe fun K' hK=>?_|refine Qc ?_|refine Qd ?_|refine Qa ?_|((first|refine Qg ⟨_,rfl,fun hc=>?_,fun hc=>?_⟩|refine Qs (fun hc=>?_) (fun hc=>?_)|refine Qt (fun hc=>?_) (fun hc=>?_))<;>first|(cases hc;done)|((try simp only [znz] at hc);first|exact znf|skip))|refine Qi ?_|refine Qf ?_|simp (maxSteps:=1000000) only [go_sem,rrD,Xy,hpl,hnl,c3,Int.toNat_natCast,vp,hw]|(refine hK _ ?_;clear hK K')|apply And.intro|(apply Qv;(focus first|exact (J9 _ _ zsd zsd zsd).b))|exact zlo|omega|exact zms)
        all_goals first
          | exact hout hmi _ (QO []) (JE [] (by simp only [go_sem,and_true,true_and,implies_true,Option.some.injEq,exists_eq_left',Qh,Qj,rrC];(repeat' (first|rfl|apply And.intro|omega|exact fun h=>h|exact Exists.intro _ rfl))) (by simp only [go_sem,and_true,true_and,implies_true,Option.some.injEq,exists_eq_left',Qh,Qj,rrC];(repeat' (first|rfl|apply And.intro|omega|exact fun h=>h|exact Exists.intro _ rfl))) (by simp [QO]) (by simp) (by omega))
      · have c3:decide ((k:Int) < (p.needs.length:Int)) = true:=decide_eq_true (by omega)
        rcases bi with _|_
        · have hmi:mkI l b3 i:=fun h=>by rw [hbi] at h;cases h
          repeat' (first|refine Qb fun K' hK=>?_|refine Qe fun K' hK=>?_|refine Qc ?_|refine Qd ?_|refine Qa ?_|((first|refine Qg ⟨_,rfl,fun hc=>?_,fun hc=>?_⟩|refine Qs (fun hc=>?_) (fun hc=>?_)|refine Qt (fun hc=>?_) (fun hc=>?_))<;>first|(cases hc;done)|((try simp only [znz] at hc);first|exact znf|skip))|refine Qi ?_|refine Qf ?_|simp (maxSteps:=1000000) only [go_sem,rrD,Xy,hpl,hnl,c3,Int.toNat_natCast,vp,vbi,hbm3,hw]|(refine hK _ ?_;clear hK K')|apply And.intro|(apply Qv;(focus first|exact (J9 _ _ zsd zsd zsd).b))|exact zlo|omega|exact zms)
          all_goals first
            | exact hout hmi _ (QO []) (JE [] (by simp only [go_sem,and_true,true_and,implies_true,Option.some.injEq,exists_eq_left',Qh,Qj,rrC];(repeat' (first|rfl|apply And.intro|omega|exact fun h=>h|exact Exists.intro _ rfl))) (by simp only [go_sem,and_true,true_and,implies_true,Option.some.injEq,exists_eq_left',Qh,Qj,rrC];(repeat' (first|rfl|apply And.intro|omega|exact fun h=>h|exact Exists.intro _ rfl))) (by simp [QO]) (by simp) (by omega))
        · obtain ⟨n,hn⟩:∃ n,p.needs[k]? = some n:=⟨p.needs[k],List.getElem?_eq_getElem (by omega)⟩
          have hnin:=List.mem_of_getElem? hn
          have vn:=hgn p.needs k n hn
          have gm:=(J9 l n hl (hpz.2.2.2 n hnin) hu).b
          simp only [JS.v,JS.cells] at gm
          have hnx:∀ b4:List Bool,(∀ m:Nat,b3[m]? = some true→b4[m]? = some true)→(∀ m:Nat,KN l n = (m:Int)→b4[m]? = some true)→∀ n'∈p.needs.take (k + 1),∀ m:Nat,KN l n' = (m:Int)→b4[m]? = some true:=by
            intro b4 h1 h2 n' hn' m hmm
            rw [List.take_add_one,hn] at hn'
            rcases List.mem_append.1 hn' with hn'|hn'
            · exact h1 m (hn3 n' hn' m hmm)
            · simp only [Option.toList_some,List.mem_singleton] at hn'
              subst hn';exact h2 m hmm
          by_cases hneg:KN l n < 0
          · have c4:decide (KN l n≥0) = false:=decide_eq_false (by omega)
            repeat' (first|refine Qb fun K' hK=>?_|refine Qe fun K' hK=>?_|refine Qc ?_|refine Qd ?_|refine Qa ?_|((first|refine Qg ⟨_,rfl,fun hc=>?_,fun hc=>?_⟩|refine Qs (fun hc=>?_) (fun hc=>?_)|refine Qt (fun hc=>?_) (fun hc=>?_))<;>first|(cases hc;done)|((try simp only [znz] at hc);first|exact znf|skip))|refine Qi ?_|refine Qf ?_|simp (maxSteps:=1000000) only [go_sem,rrD,Xy,hpl,hnl,c3,c4,Int.toNat_natCast,vp,vn,vbi,hbm3,hw2]|(refine hK _ ?_;clear hK K')|apply And.intro|(apply Qv;(focus first|exact gm|exact (J9 _ _ zsd zsd zsd).b))|exact zlo|omega|exact zms)
            all_goals first
              | exact hL4 _ (b3,ag3,k + 1) (QO []) ⟨hm3,(by show k + 1≤p.needs.length;omega),hf3,ht3,hnx b3 (fun _ h=>h) (fun m hmm=>by omega)⟩ (by show p.needs.length - (k + 1) < p.needs.length - k;omega) (JE [] (by simp only [go_sem,and_true,true_and,implies_true,Option.some.injEq,exists_eq_left',Qh,Qj,rrD];(repeat' (first|rfl|apply And.intro|omega|exact fun h=>h|exact Exists.intro _ rfl))) (by simp only [go_sem,and_true,true_and,implies_true,Option.some.injEq,exists_eq_left',Qh,Qj,rrD];(repeat' (first|rfl|apply And.intro|omega|exact fun h=>h|exact Exists.intro _ rfl))) (by simp [QO]) (by simp) (by omega))
          · obtain ⟨m,hmm⟩:∃ m:Nat,KN l n = (m:Int):=⟨(KN l n).toNat,by omega⟩
            have hml:=aiw hmm
            have c4:decide ((m:Int)≥0) = true:=decide_eq_true (by omega)
            obtain ⟨bm,hbm⟩:∃ b,b3[m]? = some b:=⟨b3[m]'(by have:=hm3.1;omega),List.getElem?_eq_getElem (by have:=hm3.1;omega)⟩
            have vbm:(b3.map V.bool)[m]? = some (V.sc (Value.bool bm)):=by rw [List.getElem?_map,hbm];rfl
            rw [hmm] at gm
            rcases bm with _|_
            · have hset:(b3.map V.bool).set m (V.bool true) = (b3.set m true).map V.bool:=by rw [List.map_set]
              have hcn:=ajF b3 m hbm
              have hc3:aiR b3≤aiR b1:=by
                rcases ag3 with _|_
                · rw [(hf3 rfl).1];exact Nat.le_refl _
                · have:=ht3 rfl;omega
              repeat' (first|refine Qb fun K' hK=>?_|refine Qe fun K' hK=>?_|refine Qc ?_|refine Qd ?_|refine Qa ?_|((first|refine Qg ⟨_,rfl,fun hc=>?_,fun hc=>?_⟩|refine Qs (fun hc=>?_) (fun hc=>?_)|refine Qt (fun hc=>?_) (fun hc=>?_))<;>first|(cases hc;done)|((try simp only [znz] at hc);first|exact znf|skip))|refine Qi ?_|refine Qf ?_|simp (maxSteps:=1000000) only [go_sem,rrD,Xy,hpl,hnl,c3,c4,Int.toNat_natCast,vp,vn,vbi,vbm,hbm3,hset,hw2]|(refine hK _ ?_;clear hK K')|apply And.intro|(apply Qv;(focus first|exact gm|exact (J9 _ _ zsd zsd zsd).b))|exact zlo|omega|exact zms)
              all_goals first
                | exact hL4 _ (b3.set m true,true,k + 1) (QO []) ⟨aor hm3 hbi hp hnin hmm,(by show k + 1≤p.needs.length;omega),fun h=>(by cases h),fun _=>(by show aiR (b3.set m true) < aiR b1;omega),hnx _ (fun _ h=>amF h) (fun m' hm'=>by
                    have e:m' = m:=by omega
                    subst e
                    rw [List.getElem?_set,if_pos rfl,if_pos (by have:=hm3.1;omega)])⟩ (by show p.needs.length - (k + 1) < p.needs.length - k;omega) (JE [] (by simp only [go_sem,and_true,true_and,implies_true,Option.some.injEq,exists_eq_left',Qh,Qj,rrD];(repeat' (first|rfl|apply And.intro|omega|exact fun h=>h|exact Exists.intro _ rfl))) (by simp only [go_sem,and_true,true_and,implies_true,Option.some.injEq,exists_eq_left',Qh,Qj,rrD];(repeat' (first|rfl|apply And.intro|omega|exact fun h=>h|exact Exists.intro _ rfl))) (by simp [QO]) (by simp) (by omega))
            · repeat' (first|refine Qb fun K' hK=>?_|refine Qe fun K' hK=>?_|refine Qc ?_|refine Qd ?_|refine Qa ?_|((first|refine Qg ⟨_,rfl,fun hc=>?_,fun hc=>?_⟩|refine Qs (fun hc=>?_) (fun hc=>?_)|refine Qt (fun hc=>?_) (fun hc=>?_))<;>first|(cases hc;done)|((try simp only [znz] at hc);first|exact znf|skip))|refine Qi ?_|refine Qf ?_|simp (maxSteps:=1000000) only [go_sem,rrD,Xy,hpl,hnl,c3,c4,Int.toNat_natCast,vp,vn,vbi,vbm,hbm3,hw2]|(refine hK _ ?_;clear hK K')|apply And.intro|(apply Qv;(focus first|exact gm|exact (J9 _ _ zsd zsd zsd).b))|exact zlo|omega|exact zms)
              all_goals first
                | exact hL4 _ (b3,ag3,k + 1) (QO []) ⟨hm3,(by show k + 1≤p.needs.length;omega),hf3,ht3,hnx b3 (fun _ h=>h) (fun m' hm'=>by
                    have e:m' = m:=by omega
                    subst e;exact hbm)⟩ (by show p.needs.length - (k + 1) < p.needs.length - k;omega) (JE [] (by simp only [go_sem,and_true,true_and,implies_true,Option.some.injEq,exists_eq_left',Qh,Qj,rrD];(repeat' (first|rfl|apply And.intro|omega|exact fun h=>h|exact Exists.intro _ rfl))) (by simp only [go_sem,and_true,true_and,implies_true,Option.some.injEq,exists_eq_left',Qh,Qj,rrD];(repeat' (first|rfl|apply And.intro|omega|exact fun h=>h|exact Exists.intro _ rfl))) (by simp [QO]) (by simp) (by omega))
end Av
end
section
set_option linter.unusedSimpArgs false
set_option linter.unusedVariables false
set_option maxRecDepth 10000
set_option maxHeartbeats 4000000
namespace Av
open Go
attribute [local irreducible] AWp WY Vp Vq awS awC V1 awQ Uh Q9 YQ VZ awR YT awB okR Ww ris
noncomputable def aj8 (l:List Qu) (a i:Nat):Bool:=@decide (Rch l a i) (Classical.propDecidable _)
noncomputable def amC (l:List Qu) (a k:Nat):List (List UInt8):=((List.range k).filter (aj8 l a)).map fun i:Nat=>agX l (i:Int)
theorem amO (l:List Qu) (a:Nat):amC l a l.length = adl l a:=by
  unfold amC adl yd afK aj8
  rw [List.map_map];rfl
theorem alt {l:List Qu} {a k:Nat} {p:Qu} (hp:l[k]? = some p):amC l a (k + 1) = amC l a k++(if aj8 l a k = true then [p.name] else []):=by
  unfold amC
  rw [List.range_succ,List.filter_append,List.map_append]
  congr 1
  by_cases h:aj8 l a k = true
  · rw [if_pos h,List.filter_cons_of_pos h];simp [v6 hp]
  · rw [if_neg h,List.filter_cons_of_neg h];rfl
theorem amN {l:List Qu} {a k:Nat}:(amC l a k).length≤k:=by
  unfold amC
  rw [List.length_map]
  exact Nat.le_trans (List.length_filter_le _ _) (by simp)
theorem afM {l:List Qu} {a k:Nat} (h:k < l.length):(aen l a)[k]? = some (aj8 l a k):=by
  unfold aen
  rw [List.getElem?_map,List.getElem?_range h];rfl
theorem ajH {l:List Qu} (hc0:Y8 l = 0):l.length≤64:=by
  rcases Nat.lt_or_ge 64 l.length with h|h
  · have e:decide ((l.length:Int) > 64) = true:=decide_eq_true (by omega)
    rw [Y8,e,Bool.true_or,if_pos rfl] at hc0
    exact absurd hc0 (by decide)
  · exact h
def ali (l:List Qu) (bs:List Bool) (ns:List (List UInt8)) (k:Nat):St:=Xy [(0,.sl 3 (l.map Qu.v)),(7,.sl 1 (bs.map V.bool)),(9,.hd 0 0 ns.length),(10,V.int k)] [(0,.buf true 1 (ns.map V.str))] 1
theorem aln {l:List Qu} {s:List UInt8} (h:Y8 l≠0):q8 l s = .tup [.sl 1 [],V.int (Y8 l)]:=by
  have e:WQ l s = (0,Y8 l):=by unfold WQ;rw [if_pos h]
  unfold q8;rw [e];exact if_neg h
theorem alm {l:List Qu} {s:List UInt8} (h:Y8 l = 0) (hf:Vn l s < 0):q8 l s = .tup [.sl 1 [],V.int 4]:=by
  have e:WQ l s = (0,4):=by unfold WQ;rw [if_neg (by simp [h]),if_pos hf]
  unfold q8;rw [e];exact if_neg (by decide)
theorem alk {l:List Qu} {s:List UInt8} (h:Y8 l = 0) (hf:¬ Vn l s < 0):q8 l s = .tup [.sl 1 ((adl l (Vn l s).toNat).map V.str),V.int 0]:=by
  have e:WQ l s = (Vn l s,0):=by unfold WQ;rw [if_neg (by simp [h]),if_neg hf]
  unfold q8;rw [e];exact if_pos rfl
def wD (Ya W8:Nat):AC:=Qo [0,1] (.reg [xo 4 (.mknil 1),mc 5 (V.int 0)]) (Qo [0,1] (Qo [0,1,6] (.reg [mv 11 0,cl 12 Ya [11],mv 6 12]) (Qo [0,1,6,14] (.reg [mv 13 6,bc 14 .neq 13 (V.int 0)]) (.cond (.t 14) (Qo [4,5] (.reg [mv 15 6,xo 4 (.mknil 1),mv 5 15]) (.ret)) (.skip)))) (Qo [0,7,8] (.reg [mv 17 0,mv 18 1,cl 19 W8 [17,18],mv 16 19,ex 20 16 0,ex 21 16 1,mv 7 20,mv 8 21]) (Qo [0,7] (Qo [0,7,23] (.reg [mv 22 8,xo 23 (.un .not (.t 22))]) (.cond (.t 23) (Qo [4,5] (.reg [xo 4 (.mknil 1),mc 5 (V.int 4)]) (.ret)) (.skip))) (Qo [0,7,9] (.reg [xo 9 (.mknil 1)]) (Qo [9] (Qo [0,7,9,10] (.reg [mc 10 (V.int 0)]) (.block 0 (X1 [0,7,9,10] (Qo [0,7,9,10] (Qo [0,7,9,10,27] (.reg [mv 24 10,mv 25 0,ln 26 25,bn 27 .lss 24 26]) (.cond (.t 27) (.skip) (.exit 0))) (Qo [0,7,9,10] (.block 1 (Qo [0,7,9,10,33] (.reg [mv 30 7,mv 31 10,ia 32 1 30 31,ld 33 1 32]) (.cond (.t 33) (.reg [mv 34 9,mv 35 0,mv 36 10,ia 37 3 35 36,fa 38 0 37,ld 39 1 38,xo 40 (.bslice 1 1 false [(.string ⟨#[]⟩)] [(0,(.t 39))]),xo 41 (.append 1 16 [(.string ⟨#[]⟩)] (.t 34) (.t 40)),mv 9 41]) (.skip)))) (.reg [mv 28 10,bc 29 .add 28 (V.int 1),mv 10 29])))))) (Qo [4,5] (.reg [mv 42 9,mv 4 42,mc 5 (V.int 0)]) (.ret))))))) def r_ref12_Reach:List X0:=[.tmp 4,.tmp 5]
def xN (Γ:Env) (f:Nat):Prop:=∀ (l:List Qu) (s:List UInt8) (hl:PSz l),EvC Γ f [.sl 3 (l.map Qu.v),V.str s] (q8 l s)
theorem afr {Γ:Env} {f Ya W8:Nat} (h:Has Γ.P f 43 (wD Ya W8) r_ref12_Reach) (QV:Uy Γ Ya) (Js:jF Γ W8):xN Γ f:=by
  intro l s hl
  refine W1 h (by simp) (aaw _ _) fun C hC hm=>?_
  subst hC
  unfold wD
  have gc:=(QV l hl).b
  have hpl:(l.map Qu.v).length = l.length:=List.length_map _
  by_cases hc0:Y8 l = 0
  case neg =>
    have e2:(Y8 l != 0) = true:=by simpa using hc0
    rw [aln hc0]
    repeat' (first|refine Qb fun K' hK=>?_|refine Qe fun K' hK=>?_|refine Qc ?_|refine Qd ?_|refine Qa ?_|((first|refine Qg ⟨_,rfl,fun hc=>?_,fun hc=>?_⟩|refine Qs (fun hc=>?_) (fun hc=>?_)|refine Qt (fun hc=>?_) (fun hc=>?_))<;>first|(cases hc;done)|((try simp only [znz] at hc);first|exact znf|skip))|refine Qi ?_|refine Qf ?_|simp (maxSteps:=1000000) only [go_sem,e2]|(refine hK _ ?_;clear hK K')|apply And.intro|(apply Qv;(focus first|exact gc|exact (QV _ zsd).b|exact (Js _ _ zsd zsd zsd).b))|exact zlo|omega|exact zms)
    all_goals first|(refine QM _ rfl ?_;simp only [go_sem];first|done|rfl|exact ⟨_,_,rfl⟩)
  have hu:=xk hc0
  have h64:=ajH hc0
  have gr:=(Js l s hl hu h64).b
  have hfa:decide (Vn l s≥0) = l.any (nmB s):=yg (nmB s) l 0
  rw [hc0] at gc
  unfold aj4 apb at gr
  by_cases hf:Vn l s < 0
  · rw [alm hc0 hf]
    rw [decide_eq_false (by omega)] at hfa
    rw [← hfa] at gr
    repeat' (first|refine Qb fun K' hK=>?_|refine Qe fun K' hK=>?_|refine Qc ?_|refine Qd ?_|refine Qa ?_|((first|refine Qg ⟨_,rfl,fun hc=>?_,fun hc=>?_⟩|refine Qs (fun hc=>?_) (fun hc=>?_)|refine Qt (fun hc=>?_) (fun hc=>?_))<;>first|(cases hc;done)|((try simp only [znz] at hc);first|exact znf|skip))|refine Qi ?_|refine Qf ?_|simp (maxSteps:=1000000) only [go_sem]|(refine hK _ ?_;clear hK K')|apply And.intro|(apply Qv;(focus first|exact gc|exact gr|exact (QV _ zsd).b|exact (Js _ _ zsd zsd zsd).b))|exact zlo|omega|exact zms)
    all_goals first|(refine QM _ rfl ?_;simp only [go_sem];first|done|rfl|exact ⟨_,_,rfl⟩)
  rw [alk hc0 hf]
  rw [decide_eq_true (by omega)] at hfa
  rw [← hfa,if_neg hf] at gr
  generalize (Vn l s).toNat = a at *
  have hget:=@afM l a
  generalize aen l a = bs at *
  repeat' (first|refine Qb fun K' hK=>?_|refine Qe fun K' hK=>?_|refine Qc ?_|refine Qd ?_|refine Qa ?_|((first|refine Qg ⟨_,rfl,fun hc=>?_,fun hc=>?_⟩|refine Qs (fun hc=>?_) (fun hc=>?_)|refine Qt (fun hc=>?_) (fun hc=>?_))<;>first|(cases hc;done)|((try simp only [znz] at hc);first|exact znf|skip))|refine Qi ?_|refine Qf ?_|simp (maxSteps:=1000000) only [go_sem]|(refine hK _ ?_;clear hK K')|apply And.intro|(apply Qv;(focus first|exact gc|exact gr|exact (QV _ zsd).b|exact (Js _ _ zsd zsd zsd).b))|exact zlo|omega|exact zms)
  refine JR (ι:=Nat) (fun k=>k≤l.length) (fun k=>ali l bs (amC l a k) k) (fun k=>l.length - k) 0 (by omega) (QO [(0,17000)]) (JE [(0,17000)] (by simp only [go_sem,and_true,true_and,implies_true,Option.some.injEq,exists_eq_left',Qh,Qj,ali];(repeat' (first|rfl|apply And.intro|omega|exact fun h=>h|exact Exists.intro _ rfl))) (by simp only [go_sem,and_true,true_and,implies_true,Option.some.injEq,exists_eq_left',Qh,Qj,ali];(repeat' (first|rfl|apply And.intro|omega|exact fun h=>h|exact Exists.intro _ rfl))) (by simp [QO]) (by simp;omega) (by omega)) fun k hk K' hL=>?_
  by_cases hke:k = l.length
  · have e1:decide ((l.length:Int) < (l.length:Int)) = false:=decide_eq_false (by omega)
    rw [hke,amO]
    repeat' (first|refine Qb fun K' hK=>?_|refine Qe fun K' hK=>?_|refine Qc ?_|refine Qd ?_|refine Qa ?_|((first|refine Qg ⟨_,rfl,fun hc=>?_,fun hc=>?_⟩|refine Qs (fun hc=>?_) (fun hc=>?_)|refine Qt (fun hc=>?_) (fun hc=>?_))<;>first|(cases hc;done)|((try simp only [znz] at hc);first|exact znf|skip))|refine Qi ?_|refine Qf ?_|simp (maxSteps:=1000000) only [go_sem,ali,Xy,hpl,e1,VF]|(refine hK _ ?_;clear hK K')|apply And.intro|(apply Qv;(focus first|exact (QV _ zsd).b|exact (Js _ _ zsd zsd zsd).b))|exact zlo|omega|exact zms)
    all_goals first|(refine QM _ rfl ?_;simp only [go_sem];rw [VF];first|done|rfl|exact ⟨_,_,rfl⟩)
  · have e1:decide ((k:Int) < (l.length:Int)) = true:=decide_eq_true (by omega)
    have hw:=Jq (k:=k) (by omega)
    obtain ⟨p,hp⟩:∃ p,l[k]? = some p:=⟨l[k],List.getElem?_eq_getElem (by omega)⟩
    have vp:(l.map Qu.v)[k]? = some (.agg [V.str p.name,.sl 1 (p.ver.map V.int),.sl 3 (p.needs.map JS.v)]):=by rw [List.getElem?_map,hp];rfl
    have vb:(bs.map V.bool)[k]? = some (V.sc (Value.bool (aj8 l a k))):=by rw [List.getElem?_map,hget (by omega)];rfl
    have hL':∀ (s':St) (τ:Nat→Nat),afe C.m τ s' (ali l bs (amC l a (k + 1)) (k + 1))→K' s':=fun s' τ hw=>hL s' (k + 1) τ (by omega) (by omega) hw
    rw [alt hp] at hL'
    have hnl:=amN (l:=l) (a:=a) (k:=k)
    generalize amC l a k = ns at *
    rcases hb:aj8 l a k with _|_
    · rw [hb] at vb
      rw [hb] at hL'
      simp only [Bool.false_eq_true,if_false,List.append_nil] at hL'
      repeat' (first|refine Qb fun K' hK=>?_|refine Qe fun K' hK=>?_|refine Qc ?_|refine Qd ?_|refine Qa ?_|((first|refine Qg ⟨_,rfl,fun hc=>?_,fun hc=>?_⟩|refine Qs (fun hc=>?_) (fun hc=>?_)|refine Qt (fun hc=>?_) (fun hc=>?_))<;>first|(cases hc;done)|((try simp only [znz] at hc);first|exact znf|skip))|refine Qi ?_|refine Qf ?_|simp (maxSteps:=1000000) only [go_sem,ali,Xy,hpl,e1,hw,Int.toNat_natCast,vp,vb]|(refine hK _ ?_;clear hK K')|apply And.intro|(apply Qv;(focus first|exact (QV _ zsd).b|exact (Js _ _ zsd zsd zsd).b))|exact zlo|omega|exact zms)
      all_goals first
        | exact hL' _ (QO []) (JE [] (by simp only [go_sem,and_true,true_and,implies_true,Option.some.injEq,exists_eq_left',Qh,Qj,ali];(repeat' (first|rfl|apply And.intro|omega|exact fun h=>h|exact Exists.intro _ rfl))) (by simp only [go_sem,and_true,true_and,implies_true,Option.some.injEq,exists_eq_left',Qh,Qj,ali];(repeat' (first|rfl|apply And.intro|omega|exact fun h=>h|exact Exists.intro _ rfl))) (by simp [QO]) (by simp) (by omega))
    · rw [hb] at vb
      rw [hb] at hL'
      simp only [if_true] at hL'
      have hbb:List.map V.str ns++[V.str p.name] = (ns++[p.name]).map V.str:=by rw [List.map_append];rfl
      have hln:ns.length + 1 = (ns++[p.name]).length:=by simp
      repeat' (first|refine Qb fun K' hK=>?_|refine Qe fun K' hK=>?_|refine Qc ?_|refine Qd ?_|refine Qa ?_|((first|refine Qg ⟨_,rfl,fun hc=>?_,fun hc=>?_⟩|refine Qs (fun hc=>?_) (fun hc=>?_)|refine Qt (fun hc=>?_) (fun hc=>?_))<;>first|(cases hc;done)|((try simp only [znz] at hc);first|exact znf|skip))|refine Qi ?_|refine Qf ?_|simp (maxSteps:=1000000) only [go_sem,ali,Xy,hpl,e1,hw,Int.toNat_natCast,vp,vb,VF,hbb,hln]|(refine hK _ ?_;clear hK K')|apply And.intro|(apply Qv;(focus first|exact (QV _ zsd).b|exact (Js _ _ zsd zsd zsd).b))|exact zlo|omega|exact zms)
      all_goals first
        | exact hL' _ (QO [(0,15001)]) (JE [(0,15001)] (by simp only [go_sem,and_true,true_and,implies_true,Option.some.injEq,exists_eq_left',Qh,Qj,ali];(repeat' (first|rfl|apply And.intro|omega|exact fun h=>h|exact Exists.intro _ rfl))) (by simp only [go_sem,and_true,true_and,implies_true,Option.some.injEq,exists_eq_left',Qh,Qj,ali];(repeat' (first|rfl|apply And.intro|omega|exact fun h=>h|exact Exists.intro _ rfl))) (by simp [QO]) (by simp;omega) (by omega))
def aaL (l:List PU) (u:PU):Nat:=match l with
  | []=>0
  | x :: r=>if decide (x.1 < u.1) || (x.1 == u.1 && decide (x.2 < u.2)) then aaL r u + 1 else 0
def aib (l:List PU) (u:PU):List PU:=if l[aaL l u]? = some u then l else l.take (aaL l u)++[u]++l.drop (aaL l u)
end Av
end
section
set_option linter.unusedSimpArgs false
set_option linter.unusedVariables false
set_option maxRecDepth 10000
set_option maxHeartbeats 4000000
namespace Av
open Go
attribute [local irreducible] AWp WY Vp Vq awS awC V1 awQ Uh Q9 YQ VZ awR YT awB okR Ww ris
theorem alq:∀ (l:List PU) (u:PU),aaL l u≤l.length
  | [],_=>by simp [aaL]
  | x :: r,u=>by
    have:=alq r u
    rw [aaL]
    split
    · simp only [List.length_cons];omega
    · omega
def wi:List AO:=[mv 6 5,mv 7 0,ln 8 7,bn 9 .lss 6 8,mv 10 9,mg 11 0 10 true,mg 12 5 10 true,xg 13 (.iaddr 2 (.t 11) (.t 12)) 10 true,xg 14 (.faddr 0 (.t 13)) 10 true,xg 15 (.load false 1 (.t 14)) 10 true,xg 16 (.faddr 0 (.t 3)) 10 true,xg 17 (.load false 1 (.t 16)) 10 true,xg 18 (.bin .lss (.t 15) (.t 17)) 10 true,mg 19 18 10 true,mg 20 0 19 false,mg 21 5 19 false,xg 22 (.iaddr 2 (.t 20) (.t 21)) 19 false,xg 23 (.faddr 0 (.t 22)) 19 false,xg 24 (.load false 1 (.t 23)) 19 false,xg 25 (.faddr 0 (.t 3)) 19 false,xg 26 (.load false 1 (.t 25)) 19 false,xg 27 (.bin .eql (.t 24) (.t 26)) 19 false,mg 28 27 19 false,mg 29 0 28 true,mg 30 5 28 true,xg 31 (.iaddr 2 (.t 29) (.t 30)) 28 true,xg 32 (.faddr 1 (.t 31)) 28 true,xg 33 (.load false 1 (.t 32)) 28 true,xg 34 (.faddr 1 (.t 3)) 28 true,xg 35 (.load false 1 (.t 34)) 28 true,xg 36 (.bin .lss (.t 33) (.t 35)) 28 true,xg 37 (.pick (.t 28) (.t 36) (.c (V.bool false))) 19 false,xg 38 (.pick (.t 19) (.c (V.bool true)) (.t 37)) 10 true,xo 39 (.pick (.t 10) (.t 38) (.c (V.bool false)))]
def wO:List (List Nat):=[[],[],[1],[0,2],[3],[4],[4],[5,6,4],[7,4],[8,4],[4],[10,4],[9,11,4],[12,4,4],[13],[13],[14,15,13],[16,13],[17,13],[13],[19,13],[18,20,13],[21,13,13],[22],[22],[23,24,22],[25,22],[26,22],[22],[28,22],[27,29,22],[22,30,13],[13,31,4],[4,32]]
def x7:OT:=.one 0 (.one 1 (.one 2 (.one 3 (.one 4 (.one 5 (.one 6 (.one 7 (.one 8 (.one 9 (.one 10 (.one 11 (.one 12 (.one 13 (.one 14 (.one 15 (.one 16 (.one 17 (.one 18 (.one 19 (.one 20 (.one 21 (.one 22 (.one 23 (.one 24 (.one 25 (.one 26 (.one 27 (.one 28 (.one 29 (.one 30 (.one 31 (.one 32 (.one 33 (.done))))))))))))))))))))))))))))))))))
def Wb:OP:=.one 0 false [] (mv 6 5) (.one 1 false [] (mv 7 0) (.one 2 false [] (ln 8 7) (.one 3 false [] (bn 9 .lss 6 8) (.one 4 false [] (mv 10 9) (.one 5 false [] (mg 11 0 10 true) (.one 6 false [] (mg 12 5 10 true) (.one 7 false [] (xg 13 (.iaddr 2 (.t 11) (.t 12)) 10 true) (.one 8 false [] (xg 14 (.faddr 0 (.t 13)) 10 true) (.one 9 false [] (xg 15 (.load false 1 (.t 14)) 10 true) (.one 10 false [] (xg 16 (.faddr 0 (.t 3)) 10 true) (.one 11 false [] (xg 17 (.load false 1 (.t 16)) 10 true) (.one 12 false [] (xg 18 (.bin .lss (.t 15) (.t 17)) 10 true) (.one 13 false [] (mg 19 18 10 true) (.one 14 false [] (mg 20 0 19 false) (.one 15 false [] (mg 21 5 19 false) (.one 16 false [] (xg 22 (.iaddr 2 (.t 20) (.t 21)) 19 false) (.one 17 false [] (xg 23 (.faddr 0 (.t 22)) 19 false) (.one 18 false [] (xg 24 (.load false 1 (.t 23)) 19 false) (.one 19 false [] (xg 25 (.faddr 0 (.t 3)) 19 false) (.one 20 false [] (xg 26 (.load false 1 (.t 25)) 19 false) (.one 21 false [] (xg 27 (.bin .eql (.t 24) (.t 26)) 19 false) (.one 22 false [] (mg 28 27 19 false) (.one 23 false [] (mg 29 0 28 true) (.one 24 false [] (mg 30 5 28 true) (.one 25 false [] (xg 31 (.iaddr 2 (.t 29) (.t 30)) 28 true) (.one 26 false [] (xg 32 (.faddr 1 (.t 31)) 28 true) (.one 27 false [] (xg 33 (.load false 1 (.t 32)) 28 true) (.one 28 false [] (xg 34 (.faddr 1 (.t 3)) 28 true) (.one 29 false [] (xg 35 (.load false 1 (.t 34)) 28 true) (.one 30 false [] (xg 36 (.bin .lss (.t 33) (.t 35)) 28 true) (.one 31 false [] (xg 37 (.pick (.t 28) (.t 36) (.c (V.bool false))) 19 false) (.one 32 false [] (xg 38 (.pick (.t 19) (.c (V.bool true)) (.t 37)) 10 true) (.one 33 false [] (xo 39 (.pick (.t 10) (.t 38) (.c (V.bool false)))) (.done))))))))))))))))))))))))))))))))))
theorem Yn:okR (wi) wO [] x7 = true:=by kernel_rfl
theorem Yk:Ww (ris (wi) wO []) x7 = Wb:=by kernel_rfl
def wh:List AO:=[mv 42 5,mv 43 0,ln 44 43,bn 45 .lss 42 44,mv 46 45,mg 47 0 46 true,mg 48 5 46 true,xg 49 (.iaddr 2 (.t 47) (.t 48)) 46 true,xg 50 (.load true 2 (.t 49)) 46 true,xg 51 (.load true 2 (.t 3)) 46 true,xg 52 (.eqagg false [0,0] (.t 50) (.t 51)) 46 true,xo 53 (.pick (.t 46) (.t 52) (.c (V.bool false)))]
def wN:List (List Nat):=[[],[],[1],[0,2],[3],[4],[4],[5,6,4],[7,4],[4],[8,9,4],[4,10]]
def xZ:OT:=.one 0 (.one 1 (.one 2 (.one 3 (.one 4 (.one 5 (.one 6 (.one 7 (.one 8 (.one 9 (.one 10 (.one 11 (.done))))))))))))
def Wa:OP:=.one 0 false [] (mv 42 5) (.one 1 false [] (mv 43 0) (.one 2 false [] (ln 44 43) (.one 3 false [] (bn 45 .lss 42 44) (.one 4 false [] (mv 46 45) (.one 5 false [] (mg 47 0 46 true) (.one 6 false [] (mg 48 5 46 true) (.one 7 false [] (xg 49 (.iaddr 2 (.t 47) (.t 48)) 46 true) (.one 8 false [] (xg 50 (.load true 2 (.t 49)) 46 true) (.one 9 false [] (xg 51 (.load true 2 (.t 3)) 46 true) (.one 10 false [] (xg 52 (.eqagg false [0,0] (.t 50) (.t 51)) 46 true) (.one 11 false [] (xo 53 (.pick (.t 46) (.t 52) (.c (V.bool false)))) (.done))))))))))))
theorem Ym:okR (wh) wN [] xZ = true:=by kernel_rfl
theorem Yj:Ww (ris (wh) wN []) xZ = Wa:=by kernel_rfl
def wg:List AO:=[xo 55 (.bslice 0 2 true [(.int .i64 0),(.int .i64 0)] []),mv 56 0,mv 57 5,xo 58 (.slsl 2 (.t 56) none (some (.t 57))),xo 59 (.append 2 16 [(.int .i64 0),(.int .i64 0)] (.t 55) (.t 58)),xo 60 (.load true 2 (.t 3)),xo 61 (.bslice 1 2 true [(.int .i64 0),(.int .i64 0)] [(0,(.t 60))]),xo 62 (.append 2 16 [(.int .i64 0),(.int .i64 0)] (.t 59) (.t 61)),mv 63 0,mv 64 5,xo 65 (.slsl 2 (.t 63) (some (.t 64)) none),xo 66 (.append 2 16 [(.int .i64 0),(.int .i64 0)] (.t 62) (.t 65)),mv 4 66]
def wM:List (List Nat):=[[],[],[],[1,2],[0,3],[],[5],[4,6,4],[],[],[8,9],[7,10,7],[11,11,0,1,2,3,4,5,6,7,8,9,10,11]]
def xY:OT:=.one 1 (.one 2 (.one 3 (.one 5 (.one 8 (.one 9 (.one 10 (.or 0 (.or 4 (.or 6 (.one 7 (.one 11 (.one 12 (.done)))) (.done)) (.or 6 (.or 4 (.one 7 (.one 11 (.one 12 (.done)))) (.done)) (.done))) (.or 6 (.or 0 (.or 4 (.one 7 (.one 11 (.one 12 (.done)))) (.done)) (.done)) (.done)))))))))
def X9:OP:=.one 1 false [] (mv 56 0) (.one 2 false [] (mv 57 5) (.one 3 false [] (xo 58 (.slsl 2 (.t 56) none (some (.t 57)))) (.one 5 false [] (xo 60 (.load true 2 (.t 3))) (.one 8 false [] (mv 63 0) (.one 9 false [] (mv 64 5) (.one 10 false [] (xo 65 (.slsl 2 (.t 63) (some (.t 64)) none)) (.or 0 false [] (xo 55 (.bslice 0 2 true [(.int .i64 0),(.int .i64 0)] [])) (.or 4 true [0] (xo 59 (.append 2 16 [(.int .i64 0),(.int .i64 0)] (.t 55) (.t 58))) (.or 6 false [] (xo 61 (.bslice 1 2 true [(.int .i64 0),(.int .i64 0)] [(0,(.t 60))])) (.one 7 true [6,4,0] (xo 62 (.append 2 16 [(.int .i64 0),(.int .i64 0)] (.t 59) (.t 61))) (.one 11 true [7,6,4,0] (xo 66 (.append 2 16 [(.int .i64 0),(.int .i64 0)] (.t 62) (.t 65))) (.one 12 false [11,7,6,4,0] (mv 4 66) (.done)))) (.done)) (.or 6 false [] (xo 61 (.bslice 1 2 true [(.int .i64 0),(.int .i64 0)] [(0,(.t 60))])) (.or 4 true [0] (xo 59 (.append 2 16 [(.int .i64 0),(.int .i64 0)] (.t 55) (.t 58))) (.one 7 true [6,4,0] (xo 62 (.append 2 16 [(.int .i64 0),(.int .i64 0)] (.t 59) (.t 61))) (.one 11 true [7,6,4,0] (xo 66 (.append 2 16 [(.int .i64 0),(.int .i64 0)] (.t 62) (.t 65))) (.one 12 false [11,7,6,4,0] (mv 4 66) (.done)))) (.done)) (.done))) (.or 6 false [] (xo 61 (.bslice 1 2 true [(.int .i64 0),(.int .i64 0)] [(0,(.t 60))])) (.or 0 false [] (xo 55 (.bslice 0 2 true [(.int .i64 0),(.int .i64 0)] [])) (.or 4 true [0] (xo 59 (.append 2 16 [(.int .i64 0),(.int .i64 0)] (.t 55) (.t 58))) (.one 7 true [6,4,0] (xo 62 (.append 2 16 [(.int .i64 0),(.int .i64 0)] (.t 59) (.t 61))) (.one 11 true [7,6,4,0] (xo 66 (.append 2 16 [(.int .i64 0),(.int .i64 0)] (.t 62) (.t 65))) (.one 12 false [11,7,6,4,0] (mv 4 66) (.done)))) (.done)) (.done)) (.done)))))))))
theorem Yl:okR (wg) wM [] xY = true:=by kernel_rfl
theorem Yi:Ww (ris (wg) wM []) xY = X9:=by kernel_rfl def c_ref11_Put:AC:=Qo [0,3] (.reg [xo 3 (.box true 2 (.t 1)),xo 4 (.mknil 2)]) (Qo [0,3,5] (.reg [mc 5 (V.int 0)]) (Qo [0,3,5] (.block 0 (X1 [0,3,5] (Qo [0,3,5] (Qo [0,3,5,39] (ach [] x7 (Wb) (wi) wO) (.cond (.t 39) (.skip) (.exit 0))) (.block 1 (.reg [mv 40 5,bc 41 .add 40 (V.int 1),mv 5 41]))))) (Qo [0,3,5] (Qo [0,3,5,53] (ach [] xZ (Wa) (wh) wN) (.cond (.t 53) (Qo [4] (.reg [mv 54 0,mv 4 54]) (.ret)) (.skip))) (Qo [4] (ach [] xY (X9) (wg) wM) (.ret))))) def r_ref11_Put:List X0:=[.tmp 4]
def vV (Γ:Env) (f:Nat):Prop:=∀ (l:List PU) (u:PU) (hl:l.length < 2 ^ 30),EvC Γ f [.sl 2 (l.map usV),usV u] (.sl 2 ((aib l u).map usV))
theorem ahM {Γ:Env} {f:Nat} (h:Has Γ.P f 67 c_ref11_Put r_ref11_Put) :vV Γ f:=by
  intro l u hl
  refine W1 h (by simp) (by simp only [V.closed,Qn,V.noSl,Jx,and_self,and_true,true_and]) fun C hC hm=>?_
  subst hC
  unfold c_ref11_Put
  have hlm:(l.map usV).length = l.length:=List.length_map _
  have hpk:=alq l u
  simp only [usV]
  refine Qb fun K' hK=>?_
  simp (maxSteps:=1000000) only [go_sem]
  refine hK _ ?_
  clear hK
  clear K'
  (try simp only [go_sem])
  refine Qb fun K' hK=>?_
  simp (maxSteps:=1000000) only [go_sem]
  refine hK _ ?_
  clear hK
  clear K'
  (try simp only [go_sem])
  refine ad7 (ι:=Unit) (fun _=>True) (fun _=>Xy [(0,.sl 2 (l.map usV)),(3,.ptr 0 0),(5,V.int (aaL l u))] [(0,.box true [V.int u.1,V.int u.2])] 1) (fun K' hK'=>?_) (fun _ _=>?_)
  · repeat' (first|refine Qb fun K' hK=>?_|refine Qe fun K' hK=>?_|refine Ql 34 (fun _=>true) rfl (Yn) (Yk) fun K' hK=>?_|refine Qm 34 (fun _=>true) rfl (Yn) (Yk) fun K' hK=>?_|refine Ql 12 (fun _=>true) rfl (Ym) (Yj) fun K' hK=>?_|refine Qm 12 (fun _=>true) rfl (Ym) (Yj) fun K' hK=>?_|refine Ql 13 (fun _=>true) rfl (Yl) (Yi) fun K' hK=>?_|refine Qm 13 (fun _=>true) rfl (Yl) (Yi) fun K' hK=>?_|refine Qc ?_|refine Qd ?_|refine Qa ?_|((first|refine Qg ⟨_,rfl,fun hc=>?_,fun hc=>?_⟩|refine Qs (fun hc=>?_) (fun hc=>?_)|refine Qt (fun hc=>?_) (fun hc=>?_))<;>first|(cases hc;done)|((try simp only [znz] at hc);first|exact znf|skip))|refine Qi ?_|refine Qf ?_|simp (maxSteps:=1000000) only [go_sem,Wb,Wa,X9]|(refine hK _ ?_;clear hK K')|apply And.intro|exact zlo|omega|exact zms)
    refine JR (ι:=Nat) (fun k=>k≤l.length∧k + aaL (l.drop k) u = aaL l u) (fun k=>Xy [(0,.sl 2 (l.map usV)),(3,.ptr 0 0),(5,V.int k)] [(0,.box true [V.int u.1,V.int u.2])] 1) (fun k=>l.length - k) 0 ⟨by omega,by simp⟩ (QO []) (JE [] (by simp only [go_sem,and_true,true_and,implies_true,Option.some.injEq,exists_eq_left',Qh,Qj];(repeat' (first|rfl|apply And.intro|omega|exact fun h=>h|exact Exists.intro _ rfl))) (by simp only [go_sem,and_true,true_and,implies_true,Option.some.injEq,exists_eq_left',Qh,Qj];(repeat' (first|rfl|apply And.intro|omega|exact fun h=>h|exact Exists.intro _ rfl))) (by simp [QO]) (by simp) (by omega)) fun k hk K2 hL=>?_
    obtain ⟨hk,hinv⟩:=hk
    rcases hd:l.drop k with _|⟨x,r⟩
    · have hkl:=Xx hd
      rw [hd] at hinv
      have hke:k = aaL l u:=by rw [← hinv];rfl
      have c1:decide ((k:Int) < (l.length:Int)) = false:=decide_eq_false (by omega)
      rw [← hke] at hK'
      repeat' (first|refine Qb fun K' hK=>?_|refine Qe fun K' hK=>?_|refine Ql 34 (fun _=>true) rfl (Yn) (Yk) fun K' hK=>?_|refine Qm 34 (fun _=>true) rfl (Yn) (Yk) fun K' hK=>?_|refine Ql 12 (fun _=>true) rfl (Ym) (Yj) fun K' hK=>?_|refine Qm 12 (fun _=>true) rfl (Ym) (Yj) fun K' hK=>?_|refine Ql 13 (fun _=>true) rfl (Yl) (Yi) fun K' hK=>?_|refine Qm 13 (fun _=>true) rfl (Yl) (Yi) fun K' hK=>?_|refine Qc ?_|refine Qd ?_|refine Qa ?_|((first|refine Qg ⟨_,rfl,fun hc=>?_,fun hc=>?_⟩|refine Qs (fun hc=>?_) (fun hc=>?_)|refine Qt (fun hc=>?_) (fun hc=>?_))<;>first|(cases hc;done)|((try simp only [znz] at hc);first|exact znf|skip))|refine Qi ?_|refine Qf ?_|simp (maxSteps:=1000000) only [go_sem,Xy,hlm,c1,Wb,Wa,X9]|(refine hK _ ?_;clear hK K')|apply And.intro|exact zlo|omega|exact zms)
      all_goals first
        | exact hK' _ () (QO []) trivial (JE [] (by simp only [go_sem,and_true,true_and,implies_true,Option.some.injEq,exists_eq_left',Qh,Qj];(repeat' (first|rfl|apply And.intro|omega|exact fun h=>h|exact Exists.intro _ rfl))) (by simp only [go_sem,and_true,true_and,implies_true,Option.some.injEq,exists_eq_left',Qh,Qj];(repeat' (first|rfl|apply And.intro|omega|exact fun h=>h|exact Exists.intro _ rfl))) (by simp [QO]) (by simp) (by omega))
    · obtain ⟨hk',hget,hr⟩:=Yy hd
      have hw:=Jq (k:=k) (by omega)
      have c1:decide ((k:Int) < (l.length:Int)) = true:=decide_eq_true (by omega)
      have vx:(l.map usV)[k]? = some (.agg [V.int x.1,V.int x.2]):=by rw [List.getElem?_map,hget];rfl
      rw [hd,aaL] at hinv
      have hstop:(decide (x.1 < u.1) || (x.1 == u.1 && decide (x.2 < u.2))) = false→k = aaL l u:=fun h=>by
        rw [h] at hinv;simpa using hinv
      have hgo:(decide (x.1 < u.1) || (x.1 == u.1 && decide (x.2 < u.2))) = true→∀ (s':St) (τ:Nat→Nat),afe C.m τ s' (Xy [(0,.sl 2 (l.map usV)),(3,.ptr 0 0),(5,V.int (k + 1:Nat))] [(0,.box true [V.int u.1,V.int u.2])] 1)→K2 s':=fun h s' τ hwk=>hL s' (k + 1) τ ⟨by omega,by
        rw [h,if_pos rfl] at hinv
        rw [hr];omega⟩ (by omega) hwk
      rcases h1:decide (x.1 < u.1) with _|_
      · rcases h2:(x.1 == u.1) with _|_
        · rw [h1,h2] at hstop
          rw [← hstop rfl] at hK'
          repeat' (first|refine Qb fun K' hK=>?_|refine Qe fun K' hK=>?_|refine Ql 34 (fun _=>true) rfl (Yn) (Yk) fun K' hK=>?_|refine Qm 34 (fun _=>true) rfl (Yn) (Yk) fun K' hK=>?_|refine Ql 12 (fun _=>true) rfl (Ym) (Yj) fun K' hK=>?_|refine Qm 12 (fun _=>true) rfl (Ym) (Yj) fun K' hK=>?_|refine Ql 13 (fun _=>true) rfl (Yl) (Yi) fun K' hK=>?_|refine Qm 13 (fun _=>true) rfl (Yl) (Yi) fun K' hK=>?_|refine Qc ?_|refine Qd ?_|refine Qa ?_|((first|refine Qg ⟨_,rfl,fun hc=>?_,fun hc=>?_⟩|refine Qs (fun hc=>?_) (fun hc=>?_)|refine Qt (fun hc=>?_) (fun hc=>?_))<;>first|(cases hc;done)|((try simp only [znz] at hc);first|exact znf|skip))|refine Qi ?_|refine Qf ?_|simp (maxSteps:=1000000) only [go_sem,Xy,hlm,c1,hw,Int.toNat_natCast,vx,h1,h2,Wb,Wa,X9]|(refine hK _ ?_;clear hK K')|apply And.intro|exact zlo|omega|exact zms)
          all_goals first
            | exact hK' _ () (QO []) trivial (JE [] (by simp only [go_sem,and_true,true_and,implies_true,Option.some.injEq,exists_eq_left',Qh,Qj];(repeat' (first|rfl|apply And.intro|omega|exact fun h=>h|exact Exists.intro _ rfl))) (by simp only [go_sem,and_true,true_and,implies_true,Option.some.injEq,exists_eq_left',Qh,Qj];(repeat' (first|rfl|apply And.intro|omega|exact fun h=>h|exact Exists.intro _ rfl))) (by simp [QO]) (by simp) (by omega))
        · rcases h3:decide (x.2 < u.2) with _|_
          · rw [h1,h2,h3] at hstop
            rw [← hstop rfl] at hK'
            repeat' (first|refine Qb fun K' hK=>?_|refine Qe fun K' hK=>?_|refine Ql 34 (fun _=>true) rfl (Yn) (Yk) fun K' hK=>?_|refine Qm 34 (fun _=>true) rfl (Yn) (Yk) fun K' hK=>?_|refine Ql 12 (fun _=>true) rfl (Ym) (Yj) fun K' hK=>?_|refine Qm 12 (fun _=>true) rfl (Ym) (Yj) fun K' hK=>?_|refine Ql 13 (fun _=>true) rfl (Yl) (Yi) fun K' hK=>?_|refine Qm 13 (fun _=>true) rfl (Yl) (Yi) fun K' hK=>?_|refine Qc ?_|refine Qd ?_|refine Qa ?_|((first|refine Qg ⟨_,rfl,fun hc=>?_,fun hc=>?_⟩|refine Qs (fun hc=>?_) (fun hc=>?_)|refine Qt (fun hc=>?_) (fun hc=>?_))<;>first|(cases hc;done)|((try simp only [znz] at hc);first|exact znf|skip))|refine Qi ?_|refine Qf ?_|simp (maxSteps:=1000000) only [go_sem,Xy,hlm,c1,hw,Int.toNat_natCast,vx,h1,h2,h3,Wb,Wa,X9]|(refine hK _ ?_;clear hK K')|apply And.intro|exact zlo|omega|exact zms)
            all_goals first
              | exact hK' _ () (QO []) trivial (JE [] (by simp only [go_sem,and_true,true_and,implies_true,Option.some.injEq,exists_eq_left',Qh,Qj];(repeat' (first|rfl|apply And.intro|omega|exact fun h=>h|exact Exists.intro _ rfl))) (by simp only [go_sem,and_true,true_and,implies_true,Option.some.injEq,exists_eq_left',Qh,Qj];(repeat' (first|rfl|apply And.intro|omega|exact fun h=>h|exact Exists.intro _ rfl))) (by simp [QO]) (by simp) (by omega))
          · rw [h1,h2,h3] at hgo
            repeat' (first|refine Qb fun K' hK=>?_|refine Qe fun K' hK=>?_|refine Ql 34 (fun _=>true) rfl (Yn) (Yk) fun K' hK=>?_|refine Qm 34 (fun _=>true) rfl (Yn) (Yk) fun K' hK=>?_|refine Ql 12 (fun _=>true) rfl (Ym) (Yj) fun K' hK=>?_|refine Qm 12 (fun _=>true) rfl (Ym) (Yj) fun K' hK=>?_|refine Ql 13 (fun _=>true) rfl (Yl) (Yi) fun K' hK=>?_|refine Qm 13 (fun _=>true) rfl (Yl) (Yi) fun K' hK=>?_|refine Qc ?_|refine Qd ?_|refine Qa ?_|((first|refine Qg ⟨_,rfl,fun hc=>?_,fun hc=>?_⟩|refine Qs (fun hc=>?_) (fun hc=>?_)|refine Qt (fun hc=>?_) (fun hc=>?_))<;>first|(cases hc;done)|((try simp only [znz] at hc);first|exact znf|skip))|refine Qi ?_|refine Qf ?_|simp (maxSteps:=1000000) only [go_sem,Xy,hlm,c1,hw,Int.toNat_natCast,vx,h1,h2,h3,Wb,Wa,X9]|(refine hK _ ?_;clear hK K')|apply And.intro|exact zlo|omega|exact zms)
            all_goals first
              | exact hgo rfl _ (QO []) (JE [] (by simp only [go_sem,and_true,true_and,implies_true,Option.some.injEq,exists_eq_left',Qh,Qj];(repeat' (first|rfl|apply And.intro|omega|exact fun h=>h|exact Exists.intro _ rfl))) (by simp only [go_sem,and_true,true_and,implies_true,Option.some.injEq,exists_eq_left',Qh,Qj];(repeat' (first|rfl|apply And.intro|omega|exact fun h=>h|exact Exists.intro _ rfl))) (by simp [QO]) (by simp) (by omega))
      · rw [h1] at hgo
        repeat' (first|refine Qb fun K' hK=>?_|refine Qe fun K' hK=>?_|refine Ql 34 (fun _=>true) rfl (Yn) (Yk) fun K' hK=>?_|refine Qm 34 (fun _=>true) rfl (Yn) (Yk) fun K' hK=>?_|refine Ql 12 (fun _=>true) rfl (Ym) (Yj) fun K' hK=>?_|refine Qm 12 (fun _=>true) rfl (Ym) (Yj) fun K' hK=>?_|refine Ql 13 (fun _=>true) rfl (Yl) (Yi) fun K' hK=>?_|refine Qm 13 (fun _=>true) rfl (Yl) (Yi) fun K' hK=>?_|refine Qc ?_|refine Qd ?_|refine Qa ?_|((first|refine Qg ⟨_,rfl,fun hc=>?_,fun hc=>?_⟩|refine Qs (fun hc=>?_) (fun hc=>?_)|refine Qt (fun hc=>?_) (fun hc=>?_))<;>first|(cases hc;done)|((try simp only [znz] at hc);first|exact znf|skip))|refine Qi ?_|refine Qf ?_|simp (maxSteps:=1000000) only [go_sem,Xy,hlm,c1,hw,Int.toNat_natCast,vx,h1,Wb,Wa,X9]|(refine hK _ ?_;clear hK K')|apply And.intro|exact zlo|omega|exact zms)
        all_goals first
          | exact hgo rfl _ (QO []) (JE [] (by simp only [go_sem,and_true,true_and,implies_true,Option.some.injEq,exists_eq_left',Qh,Qj];(repeat' (first|rfl|apply And.intro|omega|exact fun h=>h|exact Exists.intro _ rfl))) (by simp only [go_sem,and_true,true_and,implies_true,Option.some.injEq,exists_eq_left',Qh,Qj];(repeat' (first|rfl|apply And.intro|omega|exact fun h=>h|exact Exists.intro _ rfl))) (by simp [QO]) (by simp) (by omega))
  · have hpu:¬ l[aaL l u]? = some u→aib l u = l.take (aaL l u)++[u]++l.drop (aaL l u):=fun h=>by unfold aib;rw [if_neg h]
    have hpe:l[aaL l u]? = some u→aib l u = l:=fun h=>by unfold aib;rw [if_pos h]
    have htl:(l.take (aaL l u)).length = aaL l u:=by rw [List.length_take];omega
    generalize aaL l u = k at *
    have hus:∀ m:List PU,∀ y∈m.map usV,y.cells.length = 2:=by
      intro m y hy
      obtain ⟨z,_,rfl⟩:=List.mem_map.1 hy
      rfl
    obtain ⟨A,hA,hAl,hAc,hAm⟩:∃ A,List.take (k - 0) (l.map usV) = A∧A.length = k∧(∀ y∈A,y.cells.length = 2)∧(l.take k).map usV = A :=
      ⟨(l.take k).map usV,by rw [Nat.sub_zero,List.map_take],by rw [List.length_map];exact htl,hus _,rfl⟩
    obtain ⟨B,hB,hBl,hBc,hBm⟩:∃ B,List.take (l.length - k) (List.drop k (l.map usV)) = B∧B.length = l.length - k∧(∀ y∈B,y.cells.length = 2)∧(l.drop k).map usV = B :=
      ⟨(l.drop k).map usV,by rw [← List.map_drop,List.take_of_length_le (by simp)],by simp,hus _,rfl⟩
    have tA:List.take k A = A:=List.take_of_length_le (by omega)
    have tX:List.take (k + 1) (A++[V.agg [V.int u.1,V.int u.2]]) = A++[V.agg [V.int u.1,V.int u.2]]:=List.take_of_length_le (by simp;omega)
    have hres:(l.take k++[u]++l.drop k).map usV = A++[V.agg [V.int u.1,V.int u.2]]++B:=by
      rw [List.map_append,List.map_append,hAm,hBm];rfl
    have tR:List.take (k + 1 + (l.length - k)) (A++[V.agg [V.int u.1,V.int u.2]]++B) = A++[V.agg [V.int u.1,V.int u.2]]++B:=List.take_of_length_le (by simp;omega)
    by_cases hkl:k < l.length
    · have c1:decide ((k:Int) < (l.length:Int)) = true:=decide_eq_true (by omega)
      obtain ⟨x,hx⟩:∃ x,l[k]? = some x:=⟨l[k],List.getElem?_eq_getElem hkl⟩
      have vx:(l.map usV)[k]? = some (.agg [V.int x.1,V.int x.2]):=by rw [List.getElem?_map,hx];rfl
      rcases he:(x.1 == u.1 && x.2 == u.2) with _|_
      · rw [hpu (by rw [hx];intro e;cases e;simp at he),hres]
        repeat' (first|refine Qb fun K' hK=>?_|refine Qe fun K' hK=>?_|refine Ql 34 (fun _=>true) rfl (Yn) (Yk) fun K' hK=>?_|refine Qm 34 (fun _=>true) rfl (Yn) (Yk) fun K' hK=>?_|refine Ql 12 (fun _=>true) rfl (Ym) (Yj) fun K' hK=>?_|refine Qm 12 (fun _=>true) rfl (Ym) (Yj) fun K' hK=>?_|refine Ql 13 (fun _=>true) rfl (Yl) (Yi) fun K' hK=>?_|refine Qm 13 (fun _=>true) rfl (Yl) (Yi) fun K' hK=>?_|refine Qc ?_|refine Qd ?_|refine Qa ?_|((first|refine Qg ⟨_,rfl,fun hc=>?_,fun hc=>?_⟩|refine Qs (fun hc=>?_) (fun hc=>?_)|refine Qt (fun hc=>?_) (fun hc=>?_))<;>first|(cases hc;done)|((try simp only [znz] at hc);first|exact znf|skip))|refine Qi ?_|refine Qf ?_|simp (maxSteps:=1000000) only [go_sem,Xy,hlm,c1,Int.toNat_natCast,vx,he,hA,hB,hAl,hBl,tA,tX,Wb,Wa,X9]|(refine hK _ ?_;clear hK K')|apply And.intro|exact zlo|omega|exact zms)
        all_goals first
          | exact hAc
          | exact hBc
          | omega
          | (refine QM _ rfl ?_;simp only [go_sem];rw [List.drop_zero,tR];done)
          | (refine QM _ rfl ?_;simp only [go_sem];rw [List.drop_zero,tR];exact ⟨_,_,rfl⟩)
          | (refine QM _ rfl ?_;simp only [go_sem];rw [tR];done)
          | (refine QM _ rfl ?_;simp only [go_sem];rw [tR];exact ⟨_,_,rfl⟩)
      · rw [hpe (by rw [hx];congr 1;exact amg _ _ he)]
        repeat' (first|refine Qb fun K' hK=>?_|refine Qe fun K' hK=>?_|refine Ql 34 (fun _=>true) rfl (Yn) (Yk) fun K' hK=>?_|refine Qm 34 (fun _=>true) rfl (Yn) (Yk) fun K' hK=>?_|refine Ql 12 (fun _=>true) rfl (Ym) (Yj) fun K' hK=>?_|refine Qm 12 (fun _=>true) rfl (Ym) (Yj) fun K' hK=>?_|refine Ql 13 (fun _=>true) rfl (Yl) (Yi) fun K' hK=>?_|refine Qm 13 (fun _=>true) rfl (Yl) (Yi) fun K' hK=>?_|refine Qc ?_|refine Qd ?_|refine Qa ?_|((first|refine Qg ⟨_,rfl,fun hc=>?_,fun hc=>?_⟩|refine Qs (fun hc=>?_) (fun hc=>?_)|refine Qt (fun hc=>?_) (fun hc=>?_))<;>first|(cases hc;done)|((try simp only [znz] at hc);first|exact znf|skip))|refine Qi ?_|refine Qf ?_|simp (maxSteps:=1000000) only [go_sem,Xy,hlm,c1,Int.toNat_natCast,vx,he,Wb,Wa,X9]|(refine hK _ ?_;clear hK K')|apply And.intro|exact zlo|omega|exact zms)
        all_goals first|(refine QM _ rfl ?_;simp only [go_sem];first|done|rfl|exact ⟨_,_,rfl⟩)
    · have c1:decide ((k:Int) < (l.length:Int)) = false:=decide_eq_false (by omega)
      rw [hpu (by rw [List.getElem?_eq_none (by omega)];simp),hres]
      repeat' (first|refine Qb fun K' hK=>?_|refine Qe fun K' hK=>?_|refine Ql 34 (fun _=>true) rfl (Yn) (Yk) fun K' hK=>?_|refine Qm 34 (fun _=>true) rfl (Yn) (Yk) fun K' hK=>?_|refine Ql 12 (fun _=>true) rfl (Ym) (Yj) fun K' hK=>?_|refine Qm 12 (fun _=>true) rfl (Ym) (Yj) fun K' hK=>?_|refine Ql 13 (fun _=>true) rfl (Yl) (Yi) fun K' hK=>?_|refine Qm 13 (fun _=>true) rfl (Yl) (Yi) fun K' hK=>?_|refine Qc ?_|refine Qd ?_|refine Qa ?_|((first|refine Qg ⟨_,rfl,fun hc=>?_,fun hc=>?_⟩|refine Qs (fun hc=>?_) (fun hc=>?_)|refine Qt (fun hc=>?_) (fun hc=>?_))<;>first|(cases hc;done)|((try simp only [znz] at hc);first|exact znf|skip))|refine Qi ?_|refine Qf ?_|simp (maxSteps:=1000000) only [go_sem,Xy,hlm,c1,Int.toNat_natCast,hA,hB,hAl,hBl,tA,tX,Wb,Wa,X9]|(refine hK _ ?_;clear hK K')|apply And.intro|exact zlo|omega|exact zms)
      all_goals first
          | exact hAc
          | exact hBc
          | omega
          | (refine QM _ rfl ?_;simp only [go_sem];rw [List.drop_zero,tR];done)
          | (refine QM _ rfl ?_;simp only [go_sem];rw [List.drop_zero,tR];exact ⟨_,_,rfl⟩)
          | (refine QM _ rfl ?_;simp only [go_sem];rw [tR];done)
          | (refine QM _ rfl ?_;simp only [go_sem];rw [tR];exact ⟨_,_,rfl⟩)
end Av
end
section
set_option linter.unusedSimpArgs false
set_option linter.unusedVariables false
set_option maxRecDepth 10000
set_option maxHeartbeats 4000000
namespace Av
open Go
attribute [local irreducible] AWp WY Vp Vq awS awC V1 awQ Uh Q9 YQ VZ awR YT awB okR Ww ris
theorem vw (x y:PU):ltU x y = true↔x.1 < y.1∨(x.1 = y.1∧x.2 < y.2):=by
  unfold ltU ako
  simp only [decide_eq_true_eq]
  split<;>omega
theorem aix (x:PU):ltU x x = false:=by rw [← Bool.not_eq_true,vw];omega
theorem alS {x y z:PU} (h:ltU x y = true) (h':ltU y z = true):ltU x z = true:=by rw [vw] at *;omega
theorem alR (x y:PU):ltU x y = true∨x = y∨ltU y x = true:=by
  rw [vw,vw]
  rcases Int.lt_trichotomy x.1 y.1 with h|h|h
  · exact .inl (.inl h)
  · rcases Int.lt_trichotomy x.2 y.2 with h2|h2|h2
    · exact .inl (.inr ⟨h,h2⟩)
    · exact .inr (.inl (Prod.ext h h2))
    · exact .inr (.inr (.inr ⟨h.symm,h2⟩))
  · exact .inr (.inr (.inl h))
abbrev akQ (l:List PU):Prop:=l.Pairwise fun x y=>ltU x y = true
theorem amx:∀ (xs ys:List PU),akQ xs→akQ ys→(∀ i,i∈xs↔i∈ys)→xs = ys
  | [],[],_,_,_=>rfl
  | [],y :: r,_,_,h=>absurd ((h y).2 (by simp)) (by simp)
  | x :: r,[],_,_,h=>absurd ((h x).1 (by simp)) (by simp)
  | x :: xs,y :: ys,h1,h2,h=>by
    obtain ⟨a1,a2⟩:=List.pairwise_cons.1 h1
    obtain ⟨b1,b2⟩:=List.pairwise_cons.1 h2
    have no:∀ {p q:PU},ltU p q = true→ltU q p = true→False:=fun h h'=>by
      have:=alS h h';rw [aix] at this;cases this
    have e:x = y:=by
      rcases List.mem_cons.1 ((h x).1 (by simp)) with e|e
      · exact e
      · rcases List.mem_cons.1 ((h y).2 (by simp)) with e'|e'
        · exact e'.symm
        · exact (no (a1 y e') (b1 x e)).elim
    subst e
    rw [amx xs ys a2 b2 fun i=>?_]
    constructor
    · intro hi
      rcases List.mem_cons.1 ((h i).1 (by simp [hi])) with e|e
      · subst e;have:=a1 _ hi;rw [aix] at this;cases this
      · exact e
    · intro hi
      rcases List.mem_cons.1 ((h i).2 (by simp [hi])) with e|e
      · subst e;have:=b1 _ hi;rw [aix] at this;cases this
      · exact e
theorem amf (x y:PU):eqU x y = true↔x = y:=⟨amg x y,fun h=>by subst h;simp [eqU]⟩
theorem ahC:∀ (r:List PU) (p:PU),(p :: r).Pairwise (fun x y=>ltU y x = false)→akQ (p :: vk eqU p r)
  | [],p,_=>by simp [vk,akQ]
  | x :: r,p,h=>by
    obtain ⟨h1,h2⟩:=List.pairwise_cons.1 h
    have ih:=ahC r x h2
    rw [vk]
    by_cases he:eqU x p = true
    · rw [if_pos he]
      have:=(amf x p).1 he
      subst this
      exact ih
    · rw [if_neg he]
      refine List.pairwise_cons.2 ⟨fun z hz=>?_,ih⟩
      have hpx:ltU p x = true:=by
        rcases alR p x with h3|h3|h3
        · exact h3
        · subst h3;exact absurd ((amf p p).2 rfl) he
        · rw [h1 x (by simp)] at h3;cases h3
      rcases List.mem_cons.1 hz with e|hz
      · rw [e];exact hpx
      · exact alS hpx ((List.pairwise_cons.1 ih).1 z hz)
theorem amb {l:List PU} (h:l.Pairwise (fun x y=>ltU y x = false)):akQ (aap eqU l):=by
  cases l with
  | nil=>exact .nil
  | cons p r=>exact ahC r p h
theorem ak6 (l:List Qu) (ks:List JL) (a:Nat):akQ (ag0 l ks a):=by
  refine amb ?_
  have h1:=ahF (lt:=ltU) (fun x y z h h'=>by
    rw [← Bool.not_eq_true,vw] at *;omega) (fun x y h=>by rw [vw] at h;rw [← Bool.not_eq_true,vw];omega) (adW l ks a)
  unfold Ord at h1
  refine h1.imp fun h=>?_
  exact h
theorem ahg:∀ (l:List PU) (u:PU),akQ l→(∀ x∈l.take (aaL l u),ltU x u = true)∧(∀ x∈l.drop (aaL l u),ltU x u = false)
  | [],u,_=>by simp [aaL]
  | x :: r,u,h=>by
    obtain ⟨h1,h2⟩:=List.pairwise_cons.1 h
    obtain ⟨i1,i2⟩:=ahg r u h2
    have hx:(decide (x.1 < u.1) || (x.1 == u.1 && decide (x.2 < u.2))) = ltU x u:=by
      rw [Bool.eq_iff_iff,vw]
      simp only [Bool.or_eq_true,Bool.and_eq_true,decide_eq_true_eq,beq_iff_eq]
    rw [aaL,hx]
    by_cases hl:ltU x u = true
    · rw [if_pos hl]
      refine ⟨fun y hy=>?_,by simpa using i2⟩
      rw [List.take_succ_cons] at hy
      rcases List.mem_cons.1 hy with e|hy
      · rw [e];exact hl
      · exact i1 y hy
    · rw [if_neg hl]
      refine ⟨by simp,fun y hy=>?_⟩
      rw [List.drop_zero] at hy
      rcases List.mem_cons.1 hy with e|hy
      · rw [e];simpa using hl
      · rw [← Bool.not_eq_true]
        intro hyu
        exact hl (alS (h1 y hy) hyu)
theorem amL {l:List PU} {u:PU} (h:akQ l):akQ (aib l u)∧∀ y,y∈aib l u↔y∈l∨y = u:=by
  obtain ⟨h1,h2⟩:=ahg l u h
  unfold aib
  by_cases he:l[aaL l u]? = some u
  · rw [if_pos he]
    refine ⟨h,fun y=>⟨fun hy=>.inl hy,fun hy=>?_⟩⟩
    rcases hy with hy|rfl
    · exact hy
    · exact List.mem_of_getElem? he
  · rw [if_neg he]
    constructor
    · have hs:akQ (l.take (aaL l u)++l.drop (aaL l u)):=by rw [List.take_append_drop];exact h
      obtain ⟨s1,s2,s3⟩:=List.pairwise_append.1 hs
      have hd:∀ x∈l.drop (aaL l u),ltU u x = true:=by
        intro x hx
        rcases alR u x with h3|h3|h3
        · exact h3
        · exfalso
          subst h3
          rcases hdd:l.drop (aaL l u) with _|⟨y,r⟩
          · rw [hdd] at hx;cases hx
          · obtain ⟨_,hg,_⟩:=Yy hdd
            rw [hdd] at hx
            rcases List.mem_cons.1 hx with e|hx
            · exact he (by rw [hg,e])
            · have h4:=h2 y (by rw [hdd];simp)
              rw [hdd] at s2
              rw [(List.pairwise_cons.1 s2).1 _ hx] at h4;cases h4
        · rw [h2 x hx] at h3;cases h3
      refine List.pairwise_append.2 ⟨List.pairwise_append.2 ⟨s1,by simp,fun x hx y hy=>?_⟩,s2,fun x hx y hy=>?_⟩
      · rw [List.mem_singleton.1 hy];exact h1 x hx
      · rcases List.mem_append.1 hx with hx|hx
        · exact s3 x hx y hy
        · rw [List.mem_singleton.1 hx];exact hd y hy
    · intro y
      have:y∈l↔y∈l.take (aaL l u)∨y∈l.drop (aaL l u):=by rw [← List.mem_append,List.take_append_drop]
      rw [this]
      simp only [List.mem_append,List.mem_singleton]
      constructor
      · rintro ((h|h)|h)
        · exact .inl (.inl h)
        · exact .inr h
        · exact .inl (.inr h)
      · rintro ((h|h)|h)
        · exact .inl (.inl h)
        · exact .inr h
        · exact .inl (.inr h)
theorem amK (l:List PU) (u:PU):(aib l u).length≤l.length + 1:=by
  unfold aib
  split
  · omega
  · simp;omega
def ajb (us:List PU):List PU:=us.foldl aib []
theorem amM (us:List PU) (u:PU):ajb (us++[u]) = aib (ajb us) u:=by unfold ajb;rw [List.foldl_append];rfl
theorem amc:∀ (us o:List PU),akQ o→akQ (us.foldl aib o)∧(∀ y,y∈us.foldl aib o↔y∈o∨y∈us)∧(us.foldl aib o).length≤o.length + us.length
  | [],o,h=>⟨h,by simp,by simp⟩
  | u :: r,o,h=>by
    obtain ⟨h1,h2⟩:=amL (u:=u) h
    obtain ⟨i1,i2,i3⟩:=amc r (aib o u) h1
    refine ⟨i1,fun y=>?_,?_⟩
    · rw [List.foldl_cons,i2,h2,List.mem_cons]
      constructor
      · rintro ((h|h)|h)
        · exact .inl h
        · exact .inr (.inl h)
        · exact .inr (.inr h)
      · rintro (h|h|h)
        · exact .inl (.inl h)
        · exact .inl (.inr h)
        · exact .inr h
    · have:=amK o u
      rw [List.foldl_cons,List.length_cons];omega
theorem aeq (us:List PU):akQ (ajb us)∧(∀ y,y∈ajb us↔y∈us)∧(ajb us).length≤us.length:=by
  obtain ⟨h1,h2,h3⟩:=amc us [] .nil
  exact ⟨h1,fun y=>by rw [ajb,h2];simp,by simpa [ajb] using h3⟩
noncomputable def aic (l:List Qu) (a:Nat) (x:JL) (m:Nat):List PU:=if aj8 l a m then afd l (m:Int) x else []
noncomputable def akD (l:List Qu) (a:Nat) (x:JL):List PU:=(List.range l.length).flatMap (aic l a x)
noncomputable def aoD (l:List Qu) (ks:List JL) (a:Nat):List PU:=ks.flatMap (akD l a)
theorem anq {l:List Qu} {ks:List JL} {a:Nat} {u:PU}:u∈aoD l ks a↔u∈adW l ks a:=by
  unfold aoD akD adW akZ aic
  simp only [List.mem_flatMap,List.mem_range]
  constructor
  · rintro ⟨x,hx,m,hm,hu⟩
    split at hu
    · rename_i h
      exact ⟨m,ym.2 ⟨m,rfl,hm,@of_decide_eq_true _ (Classical.propDecidable _) h⟩,x,hx,hu⟩
    · cases hu
  · rintro ⟨i,hi,x,hx,hu⟩
    obtain ⟨m,rfl,hm,hr⟩:=ym.1 hi
    refine ⟨x,hx,m,hm,?_⟩
    rw [if_pos (show aj8 l a m = true from @decide_eq_true _ (Classical.propDecidable _) hr)]
    exact hu
theorem ak4 (l:List Qu) (ks:List JL) (a:Nat):ajb (aoD l ks a) = ag0 l ks a :=
  amx _ _ (aeq _).1 (ak6 l ks a) fun u=>by rw [(aeq _).2.1,anq,ak5]
theorem agF {α β:Type} {f:α→List β} {n:Nat}:∀ (l:List α),(∀ x∈l,(f x).length≤n)→(l.flatMap f).length≤n * l.length
  | [],_=>by simp
  | x :: r,h=>by
    have h1:=h x (by simp)
    have h2:=agF r fun y hy=>h y (by simp [hy])
    simp only [List.flatMap_cons,List.length_append,List.length_cons,Nat.mul_succ];omega
theorem akE {l:List Qu} {ks:List JL} (hk:yv 3 ks) (h5:l.length≤5) (a:Nat):(aoD l ks a).length≤60:=by
  have h1:∀ x∈ks,(akD l a x).length≤15:=fun x hx=>by
    have h2:∀ m∈List.range l.length,(aic l a x m).length≤3:=fun m _=>by
      have h3:x.uses.length≤3:=(hk.2 x hx).2.2.2.1
      unfold aic afd
      split
      · split
        · exact h3
        · simp
      · simp
    have h4:=agF (n:=3) _ h2
    rw [List.length_range] at h4
    unfold akD;omega
  have h2:=agF (n:=15) ks h1
  have h3:=hk.1
  unfold aoD;omega
end Av
end
