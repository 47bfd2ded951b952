/- K23 -/
import Derived.Test.YtalpffbofjlfgaaGreatDoorK21
import Derived.Test.YtalpffbofjlfgaaGreatDoorK22
import Derived.Test.YtalpffbofjlfgaaGreatDoorK20
set_option linter.unusedVariables false
set_option linter.unusedSimpArgs false
section
set_option linter.unusedSimpArgs false
set_option linter.unusedVariables false
set_option maxRecDepth 10000
set_option maxHeartbeats 4000000
namespace Av
open Go
attribute [local irreducible] AWp WY Vp Vq awS awC V1 awQ Uh Q9 YQ VZ awR YT awB okR Ww ris
structure JL where
  name:List UInt8
  lo:List Int
  up:List Int
  uses:List PU
def JL.cells (n:JL):List V:=[V.str n.name,.sl 1 (n.lo.map V.int),.sl 1 (n.up.map V.int),.sl 2 (n.uses.map usV)]
def JL.v (n:JL):V:=.agg n.cells
theorem aiz (n:JL):n.v.closed:=by simp only [JL.v,JL.cells,V.closed,Qn,and_self]
def ako (a b:PU):Int:=if a.1≠b.1 then a.1 - b.1 else a.2 - b.2
def xI:AC:=Qo [2,3] (.reg [xo 2 (.box true 2 (.t 0)),xo 3 (.box true 2 (.t 1)),mc 4 (V.int 0)]) (Qo [2,3] (Qo [2,3,9] (.reg [fa 5 0 2,ld 6 1 5,fa 7 0 3,ld 8 1 7,bn 9 .neq 6 8]) (.cond (.t 9) (Qo [4] (.reg [fa 10 0 2,ld 11 1 10,fa 12 0 3,ld 13 1 12,bn 14 .sub 11 13,mv 4 14]) (.ret)) (.skip))) (Qo [4] (.reg [fa 15 1 2,ld 16 1 15,fa 17 1 3,ld 18 1 17,bn 19 .sub 16 18,mv 4 19]) (.ret))) def r_catalog_Less:List X0:=[.tmp 4]
def yZ (Γ:Env) (f:Nat):Prop:=∀ (a b:PU) (ha:a.1.natAbs < 2 ^ 60) (ha2:a.2.natAbs < 2 ^ 60) (hb:b.1.natAbs < 2 ^ 60) (hb2:b.2.natAbs < 2 ^ 60),EvN Γ f [usV a,usV b] (V.int (ako a b))
theorem aeS {Γ:Env} {f:Nat} (h:Has Γ.P f 20 xI r_catalog_Less) :yZ Γ f:=by
  intro a b ha ha2 hb hb2
  refine QQ h (by simp) (by simp only [V.closed,Qn,V.noSl,Jx,and_self,and_true,true_and]) (by simp only [V.closed,Qn,V.noSl,Jx,and_self,and_true,true_and]) fun C hC hm=>?_
  subst hC
  unfold xI
  have w1:IntKind.i64.wrap (a.1 - b.1) = a.1 - b.1:=WW (by omega) (by omega)
  have w2:IntKind.i64.wrap (a.2 - b.2) = a.2 - b.2:=WW (by omega) (by omega)
  unfold ako
  by_cases h:a.1 = b.1
  · have e1:(a.1 != b.1) = false:=by simp [h]
    rw [if_neg (by simpa using h)]
    repeat' (first|refine Qb fun K' hK=>?_|refine Qe fun K' hK=>?_|refine Qc ?_|refine Qd ?_|refine Qa ?_|((first|refine Qg ⟨_,rfl,fun hc=>?_,fun hc=>?_⟩|refine Qs (fun hc=>?_) (fun hc=>?_)|refine Qt (fun hc=>?_) (fun hc=>?_))<;>first|(cases hc;done)|((try simp only [znz] at hc);first|exact znf|skip))|refine Qi ?_|refine Qf ?_|simp (maxSteps:=1000000) only [go_sem,usV,w1,w2,e1]|(refine hK _ ?_;clear hK K')|apply And.intro|exact zlo|omega|exact zms)
    all_goals first|(refine QM _ rfl ?_;simp only [go_sem];done)
  · have e1:(a.1 != b.1) = true:=by simp [h]
    rw [if_pos h]
    repeat' (first|refine Qb fun K' hK=>?_|refine Qe fun K' hK=>?_|refine Qc ?_|refine Qd ?_|refine Qa ?_|((first|refine Qg ⟨_,rfl,fun hc=>?_,fun hc=>?_⟩|refine Qs (fun hc=>?_) (fun hc=>?_)|refine Qt (fun hc=>?_) (fun hc=>?_))<;>first|(cases hc;done)|((try simp only [znz] at hc);first|exact znf|skip))|refine Qi ?_|refine Qf ?_|simp (maxSteps:=1000000) only [go_sem,usV,w1,w2,e1]|(refine hK _ ?_;clear hK K')|apply And.intro|exact zlo|omega|exact zms)
    all_goals first|(refine QM _ rfl ?_;simp only [go_sem];done)
def WQ (l:List Qu) (s:List UInt8):Int×Int:=if Y8 l≠0 then (0,Y8 l) else if Vn l s < 0 then (0,4) else (Vn l s,0)
def jW (Ye Wk:Nat):AC:=Qo [0,1] (.reg [mc 4 (V.int 0),mc 5 (V.int 0)]) (Qo [0,1] (Qo [0,1,6] (.reg [mv 8 0,cl 9 Ye [8],mv 6 9]) (Qo [0,1,6,11] (.reg [mv 10 6,bc 11 .neq 10 (V.int 0)]) (.cond (.t 11) (Qo [4,5] (.reg [mv 12 6,mc 4 (V.int 0),mv 5 12]) (.ret)) (.skip)))) (Qo [7] (.reg [mv 13 0,mv 14 1,cl 15 Wk [13,14],mv 7 15]) (Qo [7] (Qo [7,17] (.reg [mv 16 7,bc 17 .lss 16 (V.int 0)]) (.cond (.t 17) (Qo [4,5] (.reg [mc 4 (V.int 0),mc 5 (V.int 4)]) (.ret)) (.skip))) (Qo [4,5] (.reg [mv 18 7,mv 4 18,mc 5 (V.int 0)]) (.ret))))) def r_packages_start:List X0:=[.tmp 4,.tmp 5]
def Kb (Γ:Env) (f:Nat):Prop:=∀ (l:List Qu) (s:List UInt8) (hl:PSz l),EvN Γ f [.sl 3 (l.map Qu.v),V.str s] (.tup [V.int (WQ l s).1,V.int (WQ l s).2])
theorem acX {Γ:Env} {f Ye Wk:Nat} (h:Has Γ.P f 19 (jW Ye Wk) r_packages_start) (JO:VW Γ Ye) (Wh:KA Γ Wk):Kb Γ f:=by
  intro l s hl
  refine QQ h (by simp) (by simp only [V.closed,Qn,V.noSl,Jx,and_self,and_true,true_and]) (by simp only [V.closed,Qn,V.noSl,Jx,and_self,and_true,true_and]) fun C hC hm=>?_
  subst hC
  unfold jW
  have hC:=(JO l hl).b
  have hF:=(Wh l s hl.1).b
  unfold WQ
  by_cases hc0:Y8 l = 0
  · rw [if_neg (by simpa using hc0)]
    rw [hc0] at hC
    by_cases hf:Vn l s < 0
    · rw [if_pos hf]
      have e1:decide (Vn l s < 0) = true:=decide_eq_true hf
      repeat' (first|refine Qb fun K' hK=>?_|refine Qe fun K' hK=>?_|refine Qc ?_|refine Qd ?_|refine Qa ?_|((first|refine Qg ⟨_,rfl,fun hc=>?_,fun hc=>?_⟩|refine Qs (fun hc=>?_) (fun hc=>?_)|refine Qt (fun hc=>?_) (fun hc=>?_))<;>first|(cases hc;done)|((try simp only [znz] at hc);first|exact znf|skip))|refine Qi ?_|refine Qf ?_|simp (maxSteps:=1000000) only [go_sem,e1]|(refine hK _ ?_;clear hK K')|apply And.intro|(apply Qv;(focus first|exact hC|exact hF|exact (JO _ zsd).b|exact (Wh _ _ zsd).b))|exact zlo|omega|exact zms)
      all_goals first|(refine QM _ rfl ?_;simp only [go_sem];done)
    · rw [if_neg hf]
      have e1:decide (Vn l s < 0) = false:=decide_eq_false hf
      repeat' (first|refine Qb fun K' hK=>?_|refine Qe fun K' hK=>?_|refine Qc ?_|refine Qd ?_|refine Qa ?_|((first|refine Qg ⟨_,rfl,fun hc=>?_,fun hc=>?_⟩|refine Qs (fun hc=>?_) (fun hc=>?_)|refine Qt (fun hc=>?_) (fun hc=>?_))<;>first|(cases hc;done)|((try simp only [znz] at hc);first|exact znf|skip))|refine Qi ?_|refine Qf ?_|simp (maxSteps:=1000000) only [go_sem,e1]|(refine hK _ ?_;clear hK K')|apply And.intro|(apply Qv;(focus first|exact hC|exact hF|exact (JO _ zsd).b|exact (Wh _ _ zsd).b))|exact zlo|omega|exact zms)
      all_goals first|(refine QM _ rfl ?_;simp only [go_sem];done)
  · rw [if_pos hc0]
    have e1:(Y8 l != 0) = true:=by simpa using hc0
    repeat' (first|refine Qb fun K' hK=>?_|refine Qe fun K' hK=>?_|refine Qc ?_|refine Qd ?_|refine Qa ?_|((first|refine Qg ⟨_,rfl,fun hc=>?_,fun hc=>?_⟩|refine Qs (fun hc=>?_) (fun hc=>?_)|refine Qt (fun hc=>?_) (fun hc=>?_))<;>first|(cases hc;done)|((try simp only [znz] at hc);first|exact znf|skip))|refine Qi ?_|refine Qf ?_|simp (maxSteps:=1000000) only [go_sem,e1]|(refine hK _ ?_;clear hK K')|apply And.intro|(apply Qv;(focus first|exact hC|exact (JO _ zsd).b|exact (Wh _ _ zsd).b))|exact zlo|omega|exact zms)
    all_goals first|(refine QM _ rfl ?_;simp only [go_sem];done)
def jj (Xo:Nat):AC:=Qo [1] (.reg [xo 1 (.box true 4 (.t 0)),mc 2 (V.bool false)]) (Qo [2] (.reg [fa 3 1 1,xo 4 (.load true 2 (.t 3)),cl 5 Xo [4],xo 6 (.un .not (.t 5)),mv 2 6]) (.ret)) def r_packages_Uses_1:List X0:=[.tmp 2]
def qN (Γ:Env) (f:Nat):Prop:=∀ (n:JL) (ha:n.lo.length < 2 ^ 60) (hb:n.up.length < 2 ^ 60),EvN Γ f [n.v] (V.bool (!Wt n.lo n.up))
theorem abT {Γ:Env} {f Xo:Nat} (h:Has Γ.P f 7 (jj Xo) r_packages_Uses_1) (VK:UH Γ Xo):qN Γ f:=by
  intro n ha hb
  refine QQ h (by simp) (by simp only [V.closed,Qn,V.noSl,Jx,and_self,and_true,true_and]) (by simp only [V.closed,Qn,V.noSl,Jx,and_self,and_true,true_and]) fun C hC hm=>?_
  subst hC
  unfold jj
  have hR:=(VK n.lo n.up ha hb).b
  simp only [ye] at hR
  repeat' (first|refine Qb fun K' hK=>?_|refine Qe fun K' hK=>?_|refine Qc ?_|refine Qd ?_|refine Qa ?_|((first|refine Qg ⟨_,rfl,fun hc=>?_,fun hc=>?_⟩|refine Qs (fun hc=>?_) (fun hc=>?_)|refine Qt (fun hc=>?_) (fun hc=>?_))<;>first|(cases hc;done)|((try simp only [znz] at hc);first|exact znf|skip))|refine Qi ?_|refine Qf ?_|simp (maxSteps:=1000000) only [go_sem,JL.v,JL.cells]|(refine hK _ ?_;clear hK K')|apply And.intro|(apply Qv;(focus first|exact hR|exact (VK _ _ zsd zsd).b))|exact zlo|omega|exact zms)
  all_goals first|(refine QM _ rfl ?_;simp only [go_sem];done)
def ji (qq:Nat):AC:=Qo [1] (.reg [xo 1 (.box true 2 (.t 0)),mc 2 (V.bool false)]) (Qo [2] (.reg [xo 3 (.load true 2 (.t 1)),cl 4 qq [3],xo 5 (.un .not (.t 4)),mv 2 5]) (.ret)) def r_packages_Uses_2:List X0:=[.tmp 2]
def qM (Γ:Env) (f:Nat):Prop:=∀ (u:PU),EvN Γ f [usV u] (V.bool (!decide (Vf u.1 u.2 > 0)))
theorem abS {Γ:Env} {f qq:Nat} (h:Has Γ.P f 6 (ji qq) r_packages_Uses_2) (aeJ:yc Γ qq):qM Γ f:=by
  intro u
  refine QQ h (by simp) (by simp only [V.closed,Qn,V.noSl,Jx,and_self,and_true,true_and]) (by simp only [V.closed,Qn,V.noSl,Jx,and_self,and_true,true_and]) fun C hC hm=>?_
  subst hC
  unfold ji
  repeat' (first|refine Qb fun K' hK=>?_|refine Qe fun K' hK=>?_|refine Qc ?_|refine Qd ?_|refine Qa ?_|((first|refine Qg ⟨_,rfl,fun hc=>?_,fun hc=>?_⟩|refine Qs (fun hc=>?_) (fun hc=>?_)|refine Qt (fun hc=>?_) (fun hc=>?_))<;>first|(cases hc;done)|((try simp only [znz] at hc);first|exact znf|skip))|refine Qi ?_|refine Qf ?_|simp (maxSteps:=1000000) only [go_sem,usV]|(refine hK _ ?_;clear hK K')|apply And.intro|(apply Qv;(focus first|exact (aeJ _ _).b))|exact zlo|omega|exact zms)
  all_goals first|(refine QM _ rfl ?_;simp only [go_sem];done)
def jh (Yu:Nat):AC:=Qo [1,2] (.reg [xo 2 (.box true 4 (.t 0)),mc 3 (V.bool false)]) (Qo [3] (.reg [fa 4 3 2,ld 5 1 4,ld 6 1 1,cl 7 Yu [5,6],mv 3 7]) (.ret)) def r_packages_Uses_3:List X0:=[.tmp 3]
def qL (Γ:Env) (f:Nat):Prop:=∀ (n:JL) (g:Nat) (p:PU→Bool) (hp:∀ x∈n.uses,EvN Γ g [usV x] (V.bool (p x))) (hu:n.uses.length < 2 ^ 60),EvN Γ f [n.v,.ro [.clo g []] 0] (V.bool (n.uses.any p))
theorem abR {Γ:Env} {f Yu:Nat} (h:Has Γ.P f 8 (jh Yu) r_packages_Uses_3) (WN:Y6 Γ Yu):qL Γ f:=by
  intro n g p hp hu
  refine QQ h (by simp) (by simp only [V.closed,Qn,V.noSl,Jx,and_self,and_true,true_and]) (by simp only [V.closed,Qn,V.noSl,Jx,and_self,and_true,true_and]) fun C hC hm=>?_
  subst hC
  unfold jh
  have hC:=(WN n.uses g [] p hp trivial (by omega)).b
  repeat' (first|refine Qb fun K' hK=>?_|refine Qe fun K' hK=>?_|refine Qc ?_|refine Qd ?_|refine Qa ?_|((first|refine Qg ⟨_,rfl,fun hc=>?_,fun hc=>?_⟩|refine Qs (fun hc=>?_) (fun hc=>?_)|refine Qt (fun hc=>?_) (fun hc=>?_))<;>first|(cases hc;done)|((try simp only [znz] at hc);first|exact znf|skip))|refine Qi ?_|refine Qf ?_|simp (maxSteps:=1000000) only [go_sem,JL.v,JL.cells]|(refine hK _ ?_;clear hK K')|apply And.intro|(apply Qv;(focus first|exact hC|exact (WN _ _ _ _ zsd zsd zsd).b))|exact zlo|omega|exact zms)
  all_goals first|(refine QM _ rfl ?_;simp only [go_sem];done)
inductive Rch (l:List Qu) (a:Nat):Nat→Prop
  | refl:Rch l a a
  | step {i k:Nat} {p:Qu} {n:JS} (h:Rch l a i) (hp:l[i]? = some p) (hn:n∈p.needs) (hk:KN l n = (k:Int)):Rch l a k
theorem Rch.trans {l:List Qu} {a b c:Nat} (h:Rch l a b) (h':Rch l b c):Rch l a c:=by
  induction h' with
  | refl=>exact h
  | step _ hp hn hk ih=>exact .step ih hp hn hk
theorem aiw {l:List Qu} {n:JS} {k:Nat} (h:KN l n = (k:Int)):k < l.length:=by
  unfold KN at h
  split at h
  · rename_i p hp
    split at h
    · rw [h] at hp
      obtain ⟨h1,_⟩:=List.getElem?_eq_some_iff.1 hp
      simpa using h1
    · omega
  · omega
theorem Rch.lt {l:List Qu} {a b:Nat} (h:Rch l a b) (ha:a < l.length):b < l.length:=by
  induction h with
  | refl=>exact ha
  | step _ _ _ hk _=>exact aiw hk
noncomputable def afK (l:List Qu) (a:Nat):List Nat:=(List.range l.length).filter fun i=>@decide (Rch l a i) (Classical.propDecidable _)
theorem aj6 {l:List Qu} {a i:Nat}:i∈afK l a↔i < l.length∧Rch l a i:=by simp [afK]
theorem aj7 {l:List Qu} {a:Nat}:(afK l a).length≤l.length:=by
  have:=List.length_filter_le (fun i=>@decide (Rch l a i) (Classical.propDecidable _)) (List.range l.length)
  rwa [List.length_range] at this
theorem agk {l:List Qu} {a:Nat}:(afK l a).Pairwise (· < ·):=List.Pairwise.filter _ List.pairwise_lt_range
theorem anX:∀ (xs ys:List Int),xs.Pairwise (· < ·)→ys.Pairwise (· < ·)→(∀ i,i∈xs↔i∈ys)→xs = ys
  | [],[],_,_,_=>rfl
  | [],y :: r,_,_,h=>absurd ((h y).2 (by simp)) (by simp)
  | x :: r,[],_,_,h=>absurd ((h x).1 (by simp)) (by simp)
  | x :: xs,y :: ys,h1,h2,h=>by
    obtain ⟨a1,a2⟩:=List.pairwise_cons.1 h1
    obtain ⟨b1,b2⟩:=List.pairwise_cons.1 h2
    have e:x = y:=by
      rcases List.mem_cons.1 ((h x).1 (by simp)) with e|e
      · exact e
      · rcases List.mem_cons.1 ((h y).2 (by simp)) with e'|e'
        · exact e'.symm
        · have:=a1 y e';have:=b1 x e;omega
    subst e
    rw [anX xs ys a2 b2 fun i=>?_]
    constructor
    · intro hi
      rcases List.mem_cons.1 ((h i).1 (by simp [hi])) with e|e
      · subst e;have:=a1 _ hi;omega
      · exact e
    · intro hi
      rcases List.mem_cons.1 ((h i).2 (by simp [hi])) with e|e
      · subst e;have:=b1 _ hi;omega
      · exact e
noncomputable def yd (l:List Qu) (a:Nat):List Int:=(afK l a).map fun i:Nat=>(i:Int)
theorem ym {l:List Qu} {a:Nat} {i:Int}:i∈yd l a↔∃ k:Nat,i = k∧k < l.length∧Rch l a k:=by
  simp only [yd,List.mem_map,aj6]
  constructor
  · rintro ⟨k,h,rfl⟩;exact ⟨k,rfl,h⟩
  · rintro ⟨k,rfl,h⟩;exact ⟨k,h,rfl⟩
theorem abv {l:List Qu} {a:Nat}:(yd l a).Pairwise (· < ·):=by
  rw [yd,List.pairwise_map]
  exact agk.imp fun h=>by omega
theorem pig:∀ (n:Nat) (xs:List Int),xs.Nodup→(∀ x∈xs,0≤x∧x < n)→xs.length≤n
  | 0,[],_,_=>by simp
  | 0,x :: r,_,h=>by have:=h x (by simp);omega
  | n + 1,xs,hn,h=>by
    have h1:=pig n (xs.erase (n:Int)) (hn.erase _) fun x hx=>by
      have h2:=h x (List.mem_of_mem_erase hx)
      have h3:x≠(n:Int):=fun e=>by subst e;exact hn.not_mem_erase hx
      omega
    have:=List.length_erase_le (a:=(n:Int)) (l:=xs)
    rcases Decidable.em ((n:Int)∈xs) with hm|hm
    · rw [List.length_erase_of_mem hm] at h1;omega
    · rw [List.erase_of_not_mem hm] at h1;omega
theorem al6 {xs:List Int} (hn:xs.Nodup):(Uq (fun x y:Int=>decide (x < y)) xs).Pairwise (· < ·):=by
  have h1:=ahF (lt:=fun x y:Int=>decide (x < y)) (fun x y z h h'=>by simp at *;omega) (fun x y h=>by simp at *;omega) xs
  have h2:(Uq (fun x y:Int=>decide (x < y)) xs).Nodup:=akr.nodup_iff.2 hn
  unfold Ord at h1
  refine (h1.and h2).imp fun ⟨a,b⟩=>?_
  simp at a;omega
def aql (l:List Qu) (S:List Int):Prop:=∀ i:Nat,(i:Int)∈S→∀ p,l[i]? = some p→∀ n∈p.needs,0≤KN l n→KN l n∈S
def got (l:List Qu) (a:Nat) (S:List Int):Prop:=S.Nodup∧(a:Int)∈S∧∀ i∈S,∃ k:Nat,i = k∧k < l.length∧Rch l a k
theorem aiA {l:List Qu} {a:Nat} {S:List Int} (h:got l a S):S.length≤l.length:=pig _ _ h.1 fun x hx=>by
  obtain ⟨k,rfl,h1,_⟩:=h.2.2 x hx;omega
theorem al2 {l:List Qu} {a:Nat} {S:List Int} (h:got l a S) (hc:aql l S):Uq (fun x y:Int=>decide (x < y)) S = yd l a:=by
  refine anX _ _ (al6 h.1) abv fun i=>?_
  rw [abM,ym]
  refine ⟨h.2.2 i,?_⟩
  rintro ⟨k,rfl,hk,hr⟩
  clear hk
  induction hr with
  | refl=>exact h.2.1
  | step _ hp hn hm ih=>exact hm ▸ hc _ ih _ hp _ hn (by omega)
theorem aow {l:List Qu} {a i:Nat} {S:List Int} {p:Qu} {n:JS} (h:got l a S) (hi:(i:Int)∈S) (hp:l[i]? = some p) (hn:n∈p.needs) (hm:0≤KN l n) (hx:KN l n ∉ S):got l a (S++[KN l n]):=by
  obtain ⟨h1,h2,h3⟩:=h
  refine ⟨?_,by simp [h2],fun j hj=>?_⟩
  · rw [List.nodup_append]
    refine ⟨h1,by simp,fun x hx1 y hy e=>?_⟩
    simp only [List.mem_singleton] at hy
    subst hy;subst e;exact hx hx1
  · rcases List.mem_append.1 hj with hj|hj
    · exact h3 j hj
    · simp only [List.mem_singleton] at hj
      subst hj
      obtain ⟨k,hk⟩:∃ k:Nat,KN l n = k:=⟨(KN l n).toNat,by omega⟩
      obtain ⟨i',e,hi1,hi2⟩:=h3 _ hi
      have e:i = i':=by omega
      subst e
      exact ⟨k,hk,aiw hk,.step hi2 hp hn hk⟩
theorem ahJ {k:Int}:∀ (l:List Int) (i:Nat),k ∉ l→vC false [0] (V.int k) (l.map V.int) i = some none
  | [],_,_=>rfl
  | x :: r,i,h=>by
    simp only [List.mem_cons,not_or] at h
    have e:abb false [0] (V.int k) (V.int x) = some false:=by
      show Wn [0] [V.int k] [V.int x] = _
      simp only [Wn,if_true,Option.map_some]
      simp [h.1]
    simp only [List.map_cons,vC,e]
    exact ahJ r (i + 1) h.2
def alo (l:List Qu) (S F:List Int) (c0:Nat):St:=Xy [(0,.sl 3 (l.map Qu.v)),(5,.hd 0 0 S.length),(6,.mp 1)] [(0,.buf true 1 (S.map V.int)),(1,.map (F.map V.int) (F.map fun _=>V.bool true) c0)] 2
theorem ahK {x:Int}:∀ (l:List Int) (k:Nat),decide (xA x k l≥0) = decide (x∈l)
  | [],k=>by simp [xA]
  | y :: r,k=>by
    rw [xA]
    by_cases h:x = y
    · rw [if_pos h];simp [h]
    · rw [if_neg h,ahK r (k + 1)];simp [h]
def aiU (l:List Qu) (A S:List Int):Prop:=∀ i:Nat,(i:Int)∈A→∀ p,l[i]? = some p→∀ n∈p.needs,0≤KN l n→KN l n∈S
theorem amp {l:List Qu} {A S:List Int} {x:Int} (h:aiU l A S):aiU l A (S++[x]):=fun i hi p hp n hn hm=>by
  have:=h i hi p hp n hn hm
  simp [this]
def alp (l:List Qu) (S0 S F:List Int) (c0 j:Nat):St:=Xy [(0,.sl 3 (l.map Qu.v)),(5,.hd 0 0 S.length),(6,.mp 1),(24,.hd 2 0 S0.length),(25,V.int S0.length),(26,V.int j)] [(0,.buf true 1 (S.map V.int)),(1,.map (F.map V.int) (F.map fun _=>V.bool true) c0),(2,.buf true 1 (S0.map V.int))] 3
def acy (l:List Qu) (S0 S F:List Int) (c0 j:Nat) (ns:List JS) (m:Nat):St:=Xy [(0,.sl 3 (l.map Qu.v)),(5,.hd 0 0 S.length),(6,.mp 1),(24,.hd 2 0 S0.length),(25,V.int S0.length),(26,V.int j),(34,.sl 3 (ns.map JS.v)),(35,V.int ns.length),(36,V.int m)] [(0,.buf true 1 (S.map V.int)),(1,.map (F.map V.int) (F.map fun _=>V.bool true) c0),(2,.buf true 1 (S0.map V.int))] 3
theorem y5 (τ:Nat→Nat):∀ F:List Int,qU τ (F.map fun _=>V.bool true) = F.map fun _=>V.bool true
  | []=>rfl
  | _ :: r=>by simp only [List.map_cons,qU,V.ren,y5 τ r]
theorem abq {n:Nat}:∀ F:List Int,ltL n (F.map fun _=>V.bool true)
  | []=>trivial
  | _ :: r=>⟨trivial,abq r⟩
theorem ak8 (τ:Nat→Nat) (F:List Int):qU τ ((F.map fun _=>V.bool true)++[V.bool true]) = (F.map fun _=>V.bool true)++[V.bool true]:=by
  have:=y5 τ (F++[0])
  simpa only [List.map_append,List.map_cons,List.map_nil] using this
theorem anG {n:Nat} (F:List Int):ltL n ((F.map fun _=>V.bool true)++[V.bool true]):=by
  have:=abq (n:=n) (F++[0])
  simpa only [List.map_append,List.map_cons,List.map_nil] using this
theorem akH {l:List Qu} {S S1:List Int} {j k:Nat} {p:Qu} (h:aiU l (S.take j) S1) (hx:S[j]? = some (k:Int)) (hp:l[k]? = some p) (hn:∀ n∈p.needs,0≤KN l n→KN l n∈S1):aiU l (S.take (j + 1)) S1:=by
  intro i hi p' hp' n hn' hm
  rw [List.take_add_one,hx] at hi
  rcases List.mem_append.1 hi with hi|hi
  · exact h i hi p' hp' n hn' hm
  · simp only [Option.toList_some,List.mem_singleton] at hi
    have e:i = k:=by omega
    subst e
    rw [hp] at hp'
    cases hp'
    exact hn n hn' hm
theorem aev {l:List Qu} {ns:List JS} {m:Nat} {n:JS} {T T':List Int} (h:∀ x∈ns.take m,0≤KN l x→KN l x∈T) (hg:ns[m]? = some n) (hT:∀ x∈T,x∈T') (hn:0≤KN l n→KN l n∈T'):∀ x∈ns.take (m + 1),0≤KN l x→KN l x∈T':=by
  intro x hx hm
  rw [List.take_add_one,hg] at hx
  rcases List.mem_append.1 hx with hx|hx
  · exact hT _ (h x hx hm)
  · simp only [Option.toList_some,List.mem_singleton] at hx
    subst hx
    exact hn hm
def jX (WU WL JJ W7:Nat):AC:=Qo [0,1] (.reg [xo 4 (.mknil 1)]) (Qo [0,1,5] (.reg [mv 13 1,xo 14 (.bslice 1 1 false [(.int .i64 0)] [(0,(.t 13))]),mv 5 14]) (Qo [0,5,6] (.reg [xo 15 (.mkmap),mv 16 1,⟨none,.mapset false [0] (.t 15) (.t 16) (.c (V.bool true)),none⟩,mv 17 15,mv 6 17]) (Qo [5] (.block 0 (X1 [0,5,6] (Qo [0,5,6] (Qo [0,5,6,20] (.reg [mv 18 6,xo 19 (.maplen (.t 18)),bc 20 .gtr 19 (V.int 0)]) (.cond (.t 20) (.skip) (.exit 0))) (.block 1 (Qo [0,5,6,7] (.reg [mv 21 5,cl 22 WU [21],mv 7 22]) (Qo [0,5,6,7] (.reg [mv 23 6,⟨none,.mapclr (.t 23),none⟩]) (Qo [0,5,6,24,25,26] (.reg [mv 24 7,ln 25 24,mc 26 (V.int 0)]) (.block 2 (X1 [0,5,6,24,25,26] (Qo [0,5,6,24,25,26,27] (.reg [bn 27 .lss 26 25]) (Qo [0,5,6,24,25,26] (.cond (.t 27) (.skip) (.exit 2)) (Qo [0,5,6,24,25,26] (.block 3 (Qo [0,5,6,9,24,25,26] (.reg [ia 28 1 24 26,ld 29 1 28,mv 9 29]) (Qo [0,5,6,24,25,26,34,35,36] (.reg [mv 30 0,mv 31 9,ia 32 3 30 31,fa 33 2 32,ld 34 1 33,ln 35 34,mc 36 (V.int 0)]) (.block 4 (X1 [0,5,6,24,25,26,34,35,36] (Qo [0,5,6,24,25,26,34,35,36,37] (.reg [bn 37 .lss 36 35]) (Qo [0,5,6,24,25,26,34,35,36] (.cond (.t 37) (.skip) (.exit 4)) (Qo [0,5,6,24,25,26,34,35,36] (.block 5 (Qo [0,5,6,11,24,25,26,34,35,36] (.reg [ia 38 3 34 36,xo 39 (.load true 3 (.t 38)),xo 11 (.alloc [.val (.string ⟨#[]⟩),.nil 1,.nil 1]),xs 3 11 39]) (Qo [0,5,6,12,24,25,26,34,35,36] (.reg [mv 40 0,xo 41 (.load true 3 (.t 11)),cl 42 WL [40,41],mv 12 42]) (Qo [0,5,6,12,24,25,26,34,35,36,50] (.reg [mv 43 12,bc 44 .geq 43 (V.int 0),mv 45 44,mg 46 5 45 true,mg 47 12 45 true,xg 48 (.call JJ [(.t 46),(.t 47)]) 45 true,xg 49 (.un .not (.t 48)) 45 true,xo 50 (.pick (.t 45) (.t 49) (.c (V.bool false)))]) (.cond (.t 50) (Qo [0,5,6,12,24,25,26,34,35,36] (.reg [mv 51 6,mv 52 12,⟨none,.mapset false [0] (.t 51) (.t 52) (.c (V.bool true)),none⟩]) (.reg [mv 53 5,mv 54 12,xo 55 (.bslice 1 1 false [(.int .i64 0)] [(0,(.t 54))]),xo 56 (.append 1 8 [(.int .i64 0)] (.t 53) (.t 55)),mv 5 56])) (.skip)))))) (.reg [bc 57 .add 36 (V.int 1),mv 36 57]))))))))) (.reg [bc 58 .add 26 (V.int 1),mv 26 58]))))))))))))) (Qo [5] (.reg [mv 59 5,cl 60 W7 [59]]) (Qo [4] (.reg [mv 61 5,mv 4 61]) (.ret)))))) def r_packages_reach:List X0:=[.tmp 4]
def Kc (Γ:Env) (f:Nat):Prop:=∀ (l:List Qu) (a:Nat) (hl:PSz l) (ha:a < l.length) (hl2:l.length≤12),EvC Γ f [.sl 3 (l.map Qu.v),V.int a] (.sl 1 ((yd l a).map V.int))
theorem acY {Γ:Env} {f WU WL JJ W7:Nat} (h:Has Γ.P f 62 (jX WU WL JJ W7) r_packages_reach) (JQ:VH Γ WU) (YV:qJ Γ WL) (Q3:X3 Γ JJ) (JY:VV Γ W7):Kc Γ f:=by
  intro l a hl ha hl2
  refine W1 h (by simp) (by simp only [V.closed,Qn,V.noSl,Jx,and_self,and_true,true_and]) fun C hC hm=>?_
  subst hC
  unfold jX
  have ek:Wn [0] [V.int (a:Int)] [V.int (a:Int)] = some true:=by simp [Wn]
  repeat' (first|refine Qb fun K' hK=>?_|refine Qe fun K' hK=>?_|refine Qc ?_|refine Qd ?_|refine Qa ?_|((first|refine Qg ⟨_,rfl,fun hc=>?_,fun hc=>?_⟩|refine Qs (fun hc=>?_) (fun hc=>?_)|refine Qt (fun hc=>?_) (fun hc=>?_))<;>first|(cases hc;done)|((try simp only [znz] at hc);first|exact znf|skip))|refine Qi ?_|refine Qf ?_|simp (maxSteps:=1000000) only [go_sem,ek]|(refine hK _ ?_;clear hK K')|apply And.intro|(apply ab4;(focus first|exact (JQ _ zsd)))|(apply Ut;(focus exact rfl);(focus first|exact (JY _ zsd));(focus exact rfl);(focus (first|(simp;done)|omega|(simp only [List.length_map];omega))))|(apply Qv;(focus first|exact (YV _ _ zsd zsd).b|exact (Q3 _ _ zsd).b))|exact zlo|omega|exact zms)
  refine JR (ι:=List Int×List Int×Nat) (fun q=>got l a q.1∧(q.2.1 = []→aql l q.1)) (fun q=>alo l q.1 q.2.1 q.2.2) (fun q=>2 * (l.length - q.1.length) + (if q.2.1 = [] then 0 else 1)) ([(a:Int)],[(a:Int)],0)
    ⟨⟨by simp,by simp,fun i hi=>⟨a,by simpa using hi,ha,.refl⟩⟩,by simp⟩ (QO [(0,2000),(1,4000)]) (JE [(0,2000),(1,4000)] (by simp only [go_sem,and_true,true_and,implies_true,Option.some.injEq,exists_eq_left',Qh,Qj];(repeat' (first|rfl|apply And.intro|omega|exact fun h=>h|exact Exists.intro _ rfl))) (by simp only [go_sem,and_true,true_and,implies_true,Option.some.injEq,exists_eq_left',Qh,Qj];(repeat' (first|rfl|apply And.intro|omega|exact fun h=>h|exact Exists.intro _ rfl))) (by simp [QO]) (by simp;omega) (by omega)) fun q hq K' hL=>?_
  obtain ⟨S,F,c0⟩:=q
  obtain ⟨hg,hcl⟩:=hq
  dsimp only at hg hcl
  have hSl:=aiA hg
  by_cases hF:F = []
  · subst hF
    have hs:=(JY S (by omega))
    rw [al2 hg (hcl rfl)] at hs
    have e1:decide ((([]:List Int).length:Int) > 0) = false:=by simp
    repeat' (first|refine Qb fun K' hK=>?_|refine Qe fun K' hK=>?_|refine Qc ?_|refine Qd ?_|refine Qa ?_|((first|refine Qg ⟨_,rfl,fun hc=>?_,fun hc=>?_⟩|refine Qs (fun hc=>?_) (fun hc=>?_)|refine Qt (fun hc=>?_) (fun hc=>?_))<;>first|(cases hc;done)|((try simp only [znz] at hc);first|exact znf|skip))|refine Qi ?_|refine Qf ?_|simp (maxSteps:=1000000) only [go_sem,alo,Xy,e1]|(refine hK _ ?_;clear hK K')|apply And.intro|(apply ab4;(focus first|exact (JQ _ zsd)))|(apply Ut;(focus exact rfl);(focus first|exact hs|exact (JY _ zsd));(focus exact rfl);(focus (first|(simp;done)|omega|(simp only [List.length_map];omega))))|(apply Qv;(focus first|exact (YV _ _ zsd zsd).b|exact (Q3 _ _ zsd).b))|exact zlo|omega|exact zms)
    all_goals
      have hlr:(yd l a).length = S.length:=by rw [← al2 hg (hcl rfl),yy]
      refine QM _ rfl ?_;simp only [go_sem]
      rw [List.take_of_length_le (by rw [List.length_map];omega)]
  · have e1:decide (((F.map V.int).length:Int) > 0) = true:=by simp;exact List.length_pos_iff.2 hF
    have hc2:=(JQ S (by omega))
    have htk:(S.map V.int).take S.length = S.map V.int:=List.take_of_length_le (by simp)
    repeat' (first|refine Qb fun K' hK=>?_|refine Qe fun K' hK=>?_|refine Qc ?_|refine Qd ?_|refine Qa ?_|((first|refine Qg ⟨_,rfl,fun hc=>?_,fun hc=>?_⟩|refine Qs (fun hc=>?_) (fun hc=>?_)|refine Qt (fun hc=>?_) (fun hc=>?_))<;>first|(cases hc;done)|((try simp only [znz] at hc);first|exact znf|skip))|refine Qi ?_|refine Qf ?_|simp (maxSteps:=1000000) only [go_sem,alo,Xy,e1,htk]|(refine hK _ ?_;clear hK K')|apply And.intro|(apply ab4;(focus first|exact hc2|exact (JQ _ zsd)))|(apply Ut;(focus exact rfl);(focus first|exact (JY _ zsd));(focus exact rfl);(focus (first|(simp;done)|omega|(simp only [List.length_map];omega))))|(apply Qv;(focus first|exact (YV _ _ zsd zsd).b|exact (Q3 _ _ zsd).b))|exact zlo|omega|exact zms)
    refine JR (ι:=List Int×List Int×Nat) (fun q=>q.1 = S++q.2.1∧got l a q.1∧q.2.2≤S.length∧aiU l (S.take q.2.2) q.1) (fun q=>alp l S q.1 q.2.1 (c0 + F.length) q.2.2) (fun q=>S.length - q.2.2) (S,[],0)
      ⟨by simp,hg,by simp,fun i hi=>by simp at hi⟩ (QO [(2,4002)]) (JE [(2,4002)] (by simp only [go_sem,and_true,true_and,implies_true,Option.some.injEq,exists_eq_left',Qh,Qj];first|done|(simp;done)|(repeat' (first|rfl|apply And.intro|omega|exact fun h=>h|exact Exists.intro _ rfl))) (by simp only [go_sem,and_true,true_and,implies_true,Option.some.injEq,exists_eq_left',Qh,Qj];simp;done) (by simp [QO]) (by simp;omega) (by omega)) fun q hq K2 hL2=>?_
    obtain ⟨S1,F1,j⟩:=q
    obtain ⟨hS1,hg1,hj,hcj⟩:=hq
    dsimp only at hS1 hg1 hj hcj
    have hSl1:=aiA hg1
    have hlen1:S1.length = S.length + F1.length:=by rw [hS1,List.length_append]
    by_cases hje:j = S.length
    · have e2:decide ((j:Int) < (S.length:Int)) = false:=decide_eq_false (by omega)
      repeat' (first|refine Qb fun K' hK=>?_|refine Qe fun K' hK=>?_|refine Qc ?_|refine Qd ?_|refine Qa ?_|((first|refine Qg ⟨_,rfl,fun hc=>?_,fun hc=>?_⟩|refine Qs (fun hc=>?_) (fun hc=>?_)|refine Qt (fun hc=>?_) (fun hc=>?_))<;>first|(cases hc;done)|((try simp only [znz] at hc);first|exact znf|skip))|refine Qi ?_|refine Qf ?_|simp (maxSteps:=1000000) only [go_sem,alp,Xy,e2]|(refine hK _ ?_;clear hK K')|apply And.intro|(apply ab4;(focus first|exact (JQ _ zsd)))|(apply Ut;(focus exact rfl);(focus first|exact (JY _ zsd));(focus exact rfl);(focus (first|(simp;done)|omega|(simp only [List.length_map];omega))))|(apply Qv;(focus first|exact (YV _ _ zsd zsd).b|exact (Q3 _ _ zsd).b))|exact zlo|omega|exact zms)
      all_goals
        have hF1:F1 = []→S1 = S:=fun e=>by rw [hS1,e,List.append_nil]
        have hFl:1≤F.length:=List.length_pos_iff.2 hF
        refine hL _ (S1,F1,c0 + F.length) (QO []) ⟨hg1,fun e=>?_⟩ ?_ (JE [] (by simp only [go_sem,and_true,true_and,implies_true,Option.some.injEq,exists_eq_left',Qh,Qj,alo,y5,abq];first|done|(simp;done)|(repeat' (first|rfl|apply And.intro|omega|exact fun h=>h|exact Exists.intro _ rfl))) (by simp only [go_sem,and_true,true_and,implies_true,Option.some.injEq,exists_eq_left',Qh,Qj,alo,y5,abq];first|done|(simp;done)|(repeat' (first|rfl|apply And.intro|omega|exact fun h=>h|exact Exists.intro _ rfl))) (by simp [QO]) (by simp) (by omega))
        · have:=hcj
          rw [hje,List.take_of_length_le (Nat.le_refl _)] at this
          show aiU l S1 S1
          rw [hF1 e] at this ⊢
          exact this
        · show 2 * (l.length - S1.length) + (if F1 = [] then 0 else 1) < 2 * (l.length - S.length) + (if F = [] then 0 else 1)
          rw [if_neg hF]
          by_cases e:F1 = []
          · rw [if_pos e,hF1 e];omega
          · have:1≤F1.length:=List.length_pos_iff.2 e
            rw [if_neg e];omega
    · have e2:decide ((j:Int) < (S.length:Int)) = true:=decide_eq_true (by omega)
      obtain ⟨x,hx⟩:∃ x,S[j]? = some x:=⟨S[j],List.getElem?_eq_getElem (by omega)⟩
      obtain ⟨k,rfl,hkl,hkr⟩:=hg.2.2 x (List.mem_of_getElem? hx)
      obtain ⟨p,hp⟩:∃ p,l[k]? = some p:=⟨l[k],List.getElem?_eq_getElem hkl⟩
      have hpz:=hl.2 p (List.mem_of_getElem? hp)
      have w1:=Jq (k:=j) (by omega)
      have vx:(S.map V.int)[j]? = some (V.int k):=by rw [List.getElem?_map,hx];rfl
      have vp:(l.map Qu.v)[k]? = some (.agg [V.str p.name,.sl 1 (p.ver.map V.int),.sl 3 (p.needs.map JS.v)]):=by rw [List.getElem?_map,hp];rfl
      repeat' (first|refine Qb fun K' hK=>?_|refine Qe fun K' hK=>?_|refine Qc ?_|refine Qd ?_|refine Qa ?_|((first|refine Qg ⟨_,rfl,fun hc=>?_,fun hc=>?_⟩|refine Qs (fun hc=>?_) (fun hc=>?_)|refine Qt (fun hc=>?_) (fun hc=>?_))<;>first|(cases hc;done)|((try simp only [znz] at hc);first|exact znf|skip))|refine Qi ?_|refine Qf ?_|simp (maxSteps:=1000000) only [go_sem,alp,Xy,e2,Int.toNat_natCast,vx,vp]|(refine hK _ ?_;clear hK K')|apply And.intro|(apply ab4;(focus first|exact (JQ _ zsd)))|(apply Ut;(focus exact rfl);(focus first|exact (JY _ zsd));(focus exact rfl);(focus (first|(simp;done)|omega|(simp only [List.length_map];omega))))|(apply Qv;(focus first|exact (YV _ _ zsd zsd).b|exact (Q3 _ _ zsd).b))|exact zlo|omega|exact zms)
      refine JR (ι:=List Int×List Int×Nat) (fun q=>q.1 = S++q.2.1∧got l a q.1∧q.2.2≤p.needs.length∧aiU l (S.take j) q.1∧∀ n∈p.needs.take q.2.2,0≤KN l n→KN l n∈q.1) (fun q=>acy l S q.1 q.2.1 (c0 + F.length) j p.needs q.2.2) (fun q=>p.needs.length - q.2.2) (S1,F1,0)
        ⟨hS1,hg1,by simp,hcj,fun n hn=>by simp at hn⟩ (QO []) (JE [] (by simp only [go_sem,and_true,true_and,implies_true,Option.some.injEq,exists_eq_left',Qh,Qj,acy,y5,abq];first|done|(simp;done)|(repeat' (first|rfl|apply And.intro|omega|exact fun h=>h|exact Exists.intro _ rfl))) (by simp only [go_sem,and_true,true_and,implies_true,Option.some.injEq,exists_eq_left',Qh,Qj,acy,y5,abq];first|done|(simp;done)|(repeat' (first|rfl|apply And.intro|omega|exact fun h=>h|exact Exists.intro _ rfl))) (by simp [QO]) (by simp) (by omega)) fun q hq K3 hL3=>?_
      obtain ⟨S2,F2,m⟩:=q
      obtain ⟨hS2,hg2,hmm,hc2j,hnm⟩:=hq
      dsimp only at hS2 hg2 hmm hc2j hnm
      have hSl2:=aiA hg2
      have hlen2:S2.length = S.length + F2.length:=by rw [hS2,List.length_append]
      rcases hd:p.needs.drop m with _|⟨n,r⟩
      · have:=Xx hd
        have e3:decide ((m:Int) < (p.needs.length:Int)) = false:=decide_eq_false (by omega)
        repeat' (first|refine Qb fun K' hK=>?_|refine Qe fun K' hK=>?_|refine Qc ?_|refine Qd ?_|refine Qa ?_|((first|refine Qg ⟨_,rfl,fun hc=>?_,fun hc=>?_⟩|refine Qs (fun hc=>?_) (fun hc=>?_)|refine Qt (fun hc=>?_) (fun hc=>?_))<;>first|(cases hc;done)|((try simp only [znz] at hc);first|exact znf|skip))|refine Qi ?_|refine Qf ?_|simp (maxSteps:=1000000) only [go_sem,acy,Xy,e3,w1]|(refine hK _ ?_;clear hK K')|apply And.intro|(apply ab4;(focus first|exact (JQ _ zsd)))|(apply Ut;(focus exact rfl);(focus first|exact (JY _ zsd));(focus exact rfl);(focus (first|(simp;done)|omega|(simp only [List.length_map];omega))))|(apply Qv;(focus first|exact (YV _ _ zsd zsd).b|exact (Q3 _ _ zsd).b))|exact zlo|omega|exact zms)
        all_goals
          refine hL2 _ (S2,F2,j + 1) (QO []) ⟨hS2,hg2,(by show j + 1≤S.length;omega),akH hc2j hx hp (by rwa [List.take_of_length_le (by omega)] at hnm)⟩ (by show S.length - (j + 1) < S.length - j;omega) (JE [] (by simp only [go_sem,and_true,true_and,implies_true,Option.some.injEq,exists_eq_left',Qh,Qj,alp,y5,abq];first|done|(simp;done)|(repeat' (first|rfl|apply And.intro|omega|exact fun h=>h|exact Exists.intro _ rfl))) (by simp only [go_sem,and_true,true_and,implies_true,Option.some.injEq,exists_eq_left',Qh,Qj,alp,y5,abq];first|done|(simp;done)|(repeat' (first|rfl|apply And.intro|omega|exact fun h=>h|exact Exists.intro _ rfl))) (by simp [QO]) (by simp) (by omega))
      · obtain ⟨hk',hget,hr⟩:=Yy hd
        have hnin:n∈p.needs:=List.mem_of_getElem? hget
        have e3:decide ((m:Int) < (p.needs.length:Int)) = true:=decide_eq_true (by omega)
        have w2:=Jq (k:=m) (by have:=hpz.2.2.1;omega)
        have vn:(p.needs.map JS.v)[m]? = some (.agg [V.str n.name,.sl 1 (n.lo.map V.int),.sl 1 (n.up.map V.int)]):=by rw [List.getElem?_map,hget];rfl
        have gm:=(YV l n hl (hpz.2.2.2 n hnin)).b
        simp only [JS.v,JS.cells] at gm
        have gc:=(Q3 S2 (KN l n) (by omega)).b
        rw [ahK] at gc
        have ht2:(S2.map V.int).take S2.length = S2.map V.int:=List.take_of_length_le (by simp)
        by_cases hneg:KN l n < 0
        · have e4:decide (KN l n≥0) = false:=decide_eq_false (by omega)
          repeat' (first|refine Qb fun K' hK=>?_|refine Qe fun K' hK=>?_|refine Qc ?_|refine Qd ?_|refine Qa ?_|((first|refine Qg ⟨_,rfl,fun hc=>?_,fun hc=>?_⟩|refine Qs (fun hc=>?_) (fun hc=>?_)|refine Qt (fun hc=>?_) (fun hc=>?_))<;>first|(cases hc;done)|((try simp only [znz] at hc);first|exact znf|skip))|refine Qi ?_|refine Qf ?_|simp (maxSteps:=1000000) only [go_sem,acy,Xy,e3,w2,Int.toNat_natCast,vn,e4,ht2]|(refine hK _ ?_;clear hK K')|apply And.intro|(apply ab4;(focus first|exact (JQ _ zsd)))|(apply Ut;(focus exact rfl);(focus first|exact (JY _ zsd));(focus exact rfl);(focus (first|(simp;done)|omega|(simp only [List.length_map];omega))))|(apply Qv;(focus first|exact gm|exact gc|exact (YV _ _ zsd zsd).b|exact (Q3 _ _ zsd).b))|exact zlo|omega|exact zms)
          all_goals refine hL3 _ (S2,F2,m + 1) (QO []) ⟨hS2,hg2,(by show m + 1≤p.needs.length;omega),hc2j,aev hnm hget (fun _ h=>h) (fun e=>by omega)⟩ (by show p.needs.length - (m + 1) < p.needs.length - m;omega) (JE [] (by simp only [go_sem,and_true,true_and,implies_true,Option.some.injEq,exists_eq_left',Qh,Qj,acy,y5,abq];first|done|(simp;done)|(repeat' (first|rfl|apply And.intro|omega|exact fun h=>h|exact Exists.intro _ rfl))) (by simp only [go_sem,and_true,true_and,implies_true,Option.some.injEq,exists_eq_left',Qh,Qj,acy,y5,abq];first|done|(simp;done)|(repeat' (first|rfl|apply And.intro|omega|exact fun h=>h|exact Exists.intro _ rfl))) (by simp [QO]) (by simp) (by omega))
        · have e4:decide (KN l n≥0) = true:=decide_eq_true (by omega)
          by_cases hin:KN l n∈S2
          · rw [decide_eq_true hin] at gc
            repeat' (first|refine Qb fun K' hK=>?_|refine Qe fun K' hK=>?_|refine Qc ?_|refine Qd ?_|refine Qa ?_|((first|refine Qg ⟨_,rfl,fun hc=>?_,fun hc=>?_⟩|refine Qs (fun hc=>?_) (fun hc=>?_)|refine Qt (fun hc=>?_) (fun hc=>?_))<;>first|(cases hc;done)|((try simp only [znz] at hc);first|exact znf|skip))|refine Qi ?_|refine Qf ?_|simp (maxSteps:=1000000) only [go_sem,acy,Xy,e3,w2,Int.toNat_natCast,vn,e4,ht2]|(refine hK _ ?_;clear hK K')|apply And.intro|(apply ab4;(focus first|exact (JQ _ zsd)))|(apply Ut;(focus exact rfl);(focus first|exact (JY _ zsd));(focus exact rfl);(focus (first|(simp;done)|omega|(simp only [List.length_map];omega))))|(apply Qv;(focus first|exact gm|exact gc|exact (YV _ _ zsd zsd).b|exact (Q3 _ _ zsd).b))|exact zlo|omega|exact zms)
            all_goals refine hL3 _ (S2,F2,m + 1) (QO []) ⟨hS2,hg2,(by show m + 1≤p.needs.length;omega),hc2j,aev hnm hget (fun _ h=>h) (fun _=>hin)⟩ (by show p.needs.length - (m + 1) < p.needs.length - m;omega) (JE [] (by simp only [go_sem,and_true,true_and,implies_true,Option.some.injEq,exists_eq_left',Qh,Qj,acy,y5,abq];first|done|(simp;done)|(repeat' (first|rfl|apply And.intro|omega|exact fun h=>h|exact Exists.intro _ rfl))) (by simp only [go_sem,and_true,true_and,implies_true,Option.some.injEq,exists_eq_left',Qh,Qj,acy,y5,abq];first|done|(simp;done)|(repeat' (first|rfl|apply And.intro|omega|exact fun h=>h|exact Exists.intro _ rfl))) (by simp [QO]) (by simp) (by omega))
          · rw [decide_eq_false hin] at gc
            have vf:vC false [0] (V.int (KN l n)) (F2.map V.int) 0 = some none:=ahJ F2 0 fun h=>hin (by rw [hS2];simp [h])
            repeat' (first|refine Qb fun K' hK=>?_|refine Qe fun K' hK=>?_|refine Qc ?_|refine Qd ?_|refine Qa ?_|((first|refine Qg ⟨_,rfl,fun hc=>?_,fun hc=>?_⟩|refine Qs (fun hc=>?_) (fun hc=>?_)|refine Qt (fun hc=>?_) (fun hc=>?_))<;>first|(cases hc;done)|((try simp only [znz] at hc);first|exact znf|skip))|refine Qi ?_|refine Qf ?_|simp (maxSteps:=1000000) only [go_sem,acy,Xy,e3,w2,Int.toNat_natCast,vn,e4,ht2,vf]|(refine hK _ ?_;clear hK K')|apply And.intro|(apply ab4;(focus first|exact (JQ _ zsd)))|(apply Ut;(focus exact rfl);(focus first|exact (JY _ zsd));(focus exact rfl);(focus (first|(simp;done)|omega|(simp only [List.length_map];omega))))|(apply Qv;(focus first|exact gm|exact gc|exact (YV _ _ zsd zsd).b|exact (Q3 _ _ zsd).b))|exact zlo|omega|exact zms)
            all_goals
              have hk2:(k:Int)∈S2:=by rw [hS2];exact List.mem_append_left _ (List.mem_of_getElem? hx)
              refine hL3 _ (S2++[KN l n],F2++[KN l n],m + 1) (QO [(0,23003)]) ⟨by rw [hS2,List.append_assoc],aow hg2 hk2 hp hnin (by omega) hin,(by show m + 1≤p.needs.length;omega),amp hc2j,aev hnm hget (fun _ h=>List.mem_append_left _ h) (fun _=>by simp)⟩ (by show p.needs.length - (m + 1) < p.needs.length - m;omega) (JE [(0,23003)] (by simp only [go_sem,and_true,true_and,implies_true,Option.some.injEq,exists_eq_left',Qh,Qj,acy,y5,abq,ak8,anG,List.map_append,List.map_cons,List.map_nil,List.length_append,List.length_cons,List.length_nil];first|done|(simp;done)|(repeat' (first|rfl|apply And.intro|omega|exact fun h=>h|exact Exists.intro _ rfl))) (by simp only [go_sem,and_true,true_and,implies_true,Option.some.injEq,exists_eq_left',Qh,Qj,acy,y5,abq,ak8,anG,List.map_append,List.map_cons,List.map_nil,List.length_append,List.length_cons,List.length_nil];first|done|(simp;done)|(repeat' (first|rfl|apply And.intro|omega|exact fun h=>h|exact Exists.intro _ rfl))) (by simp [QO]) (by simp;omega) (by omega))
end Av
end
section
set_option linter.unusedSimpArgs false
set_option linter.unusedVariables false
set_option maxRecDepth 10000
set_option maxHeartbeats 4000000
namespace Av
open Go
attribute [local irreducible] AWp WY Vp Vq awS awC V1 awQ Uh Q9 YQ VZ awR YT awB okR Ww ris
def Y5:AC:=Qo [0,1] (.reg [mc 4 (V.int 0)]) (Qo [] (Qo [0,1,7,8] (.reg [mv 6 0,ln 7 6,mc 8 (V.int 0)]) (.block 0 (X1 [0,1,7,8] (Qo [0,1,7,8,9] (.reg [bn 9 .lss 8 7]) (Qo [0,1,7,8] (.cond (.t 9) (.skip) (.exit 0)) (Qo [0,1,7,8] (.block 1 (Qo [0,1,5,7,8] (.reg [mv 10 8,mv 5 10]) (Qo [0,1,5,7,8,16] (.reg [mv 11 1,mv 12 0,mv 13 5,ia 14 4 12 13,xo 15 (.load true 4 (.t 14)),xo 16 (.callv (.t 11) [(.t 15)])]) (.cond (.t 16) (Qo [4] (.reg [mv 17 5,mv 4 17]) (.ret)) (.skip))))) (.reg [bc 18 .add 8 (V.int 1),mv 8 18]))))))) (Qo [4] (.reg [mc 4 (V.int (-1))]) (.ret))) def r_slices_IndexFunc___api_Known_api_Known:List X0:=[.tmp 4]
def YY (Γ:Env) (f:Nat):Prop:=∀ (xs:List JL) (g:Nat) (cap:List V) (p:JL→Bool) (hp:∀ x∈xs,EvN Γ g (JL.v x :: cap) (V.bool (p x))) (hcap:Qn cap) (hl:xs.length < 2 ^ 62),EvN Γ f [.sl 4 (xs.map JL.v),.clo g cap] (V.int (abi p 0 xs))
theorem UA {Γ:Env} {f:Nat} (h:Has Γ.P f 19 Y5 r_slices_IndexFunc___api_Known_api_Known) :YY Γ f:=by
  intro xs g cap p hp hcap hl
  refine QQ h (by simp) (by simp only [V.closed,Qn,V.noSl,Jx,and_self,and_true,true_and]) (by simp only [V.closed,Qn,V.noSl,Jx,and_self,and_true,true_and]) fun C hC hm=>?_
  subst hC
  unfold Y5
  have s1:∀ o,Wy o cap = cap:=fun o=>YW o cap hcap
  have s2:∀ o B,JU o B cap = True:=fun o B=>eq_true (Yo o B cap hcap)
  repeat' (first|refine Qb fun K' hK=>?_|refine Qe fun K' hK=>?_|refine Qc ?_|refine Qd ?_|refine Qa ?_|((first|refine Qg ⟨_,rfl,fun hc=>?_,fun hc=>?_⟩|refine Qs (fun hc=>?_) (fun hc=>?_)|refine Qt (fun hc=>?_) (fun hc=>?_))<;>first|(cases hc;done)|((try simp only [znz] at hc);first|exact znf|skip))|refine Qi ?_|refine Qf ?_|simp (maxSteps:=1000000) only [go_sem]|(refine hK _ ?_;clear hK K')|apply And.intro|exact zlo|omega|exact zms)
  refine Xf (ι:=Nat) (fun k=>k≤xs.length∧abi p k (xs.drop k) = abi p 0 xs) (fun k=>[(8,V.int k)]) (fun k=>xs.length - k) 0 (by omega) ⟨by simp,by simp⟩ (by repeat' first|exact We|refine Vk (by omega) (by simp only [Ob.lt,ltL,V.lt,and_self,and_true];try omega) ?_) (fun i hi=>by simp only [ovT,J5,Nat.reduceEqDiff,reduceIte];(repeat' first|exact Vj|refine Wd ?_ ?_|simp only [V.lt,ltL,and_self,and_true]|omega);exact K8 _ _ hcap) (by simp only [Nat.reduceAdd,ovT,J5,Nat.reduceEqDiff,reduceIte,JA,JW,qV,u32,u33,u34,u35,u36,u37,u38,u39,and_self,and_true,true_and];first|rfl|exact Qh _ _ hcap) fun k hk K' hL=>?_
  obtain ⟨hk,hinv⟩:=hk
  simp only [ovT,J5,Nat.reduceEqDiff,reduceIte]
  rcases hd:xs.drop k with _|⟨y,r⟩
  · have:=Xx hd
    rw [hd] at hinv
    have e1:decide ((k:Int) < (((xs.map JL.v).length:Nat):Int)) = false:=by simp;omega
    repeat' (first|refine Qb fun K' hK=>?_|refine Qe fun K' hK=>?_|refine Qc ?_|refine Qd ?_|refine Qa ?_|((first|refine Qg ⟨_,rfl,fun hc=>?_,fun hc=>?_⟩|refine Qs (fun hc=>?_) (fun hc=>?_)|refine Qt (fun hc=>?_) (fun hc=>?_))<;>first|(cases hc;done)|((try simp only [znz] at hc);first|exact znf|skip))|refine Qi ?_|refine Qf ?_|simp (maxSteps:=1000000) only [go_sem,e1]|(refine hK _ ?_;clear hK K')|apply And.intro|exact zlo|omega|exact zms)
    refine QM _ rfl ?_
    simp only [go_sem]
    rw [← hinv];rfl
  · obtain ⟨hk,hget,hr⟩:=Yy hd
    rw [hd] at hinv
    have hw:=Jq (k:=k) (by omega)
    have e1:decide ((k:Int) < (((xs.map JL.v).length:Nat):Int)) = true:=by simp;omega
    have hpy:=hp y (List.mem_of_getElem? hget)
    by_cases hy:p y = true
    · rw [hy] at hpy
      repeat' (first|refine Qb fun K' hK=>?_|refine Qe fun K' hK=>?_|refine Qc ?_|refine Qd ?_|refine Qa ?_|((first|refine Qg ⟨_,rfl,fun hc=>?_,fun hc=>?_⟩|refine Qs (fun hc=>?_) (fun hc=>?_)|refine Qt (fun hc=>?_) (fun hc=>?_))<;>first|(cases hc;done)|((try simp only [znz] at hc);first|exact znf|skip))|refine Qi ?_|refine Qf ?_|simp (maxSteps:=1000000) only [go_sem,Int.toNat_natCast,List.getElem?_map,hget,hw,e1,JL.v,JL.cells,s1,s2]|(refine hK _ ?_;clear hK K')|apply And.intro|(apply Qv;(focus first|exact hpy.b))|exact zlo|omega|exact zms)
      refine QM _ rfl ?_;simp only [go_sem]
      rw [← hinv];simp [abi,hy]
    · have hy':p y = false:=by simpa using hy
      rw [hy'] at hpy
      repeat' (first|refine Qb fun K' hK=>?_|refine Qe fun K' hK=>?_|refine Qc ?_|refine Qd ?_|refine Qa ?_|((first|refine Qg ⟨_,rfl,fun hc=>?_,fun hc=>?_⟩|refine Qs (fun hc=>?_) (fun hc=>?_)|refine Qt (fun hc=>?_) (fun hc=>?_))<;>first|(cases hc;done)|((try simp only [znz] at hc);first|exact znf|skip))|refine Qi ?_|refine Qf ?_|simp (maxSteps:=1000000) only [go_sem,Int.toNat_natCast,List.getElem?_map,hget,hw,e1,JL.v,JL.cells,s1,s2]|(refine hK _ ?_;clear hK K')|apply And.intro|(apply Qv;(focus first|exact hpy.b))|exact zlo|omega|exact zms)
      refine hL _ (k + 1) (by simp only [Nat.reduceAdd,ovT,J5,Nat.reduceEqDiff,reduceIte,JA,JW,qV,u32,u33,u34,u35,u36,u37,u38,u39,and_self,and_true,true_and]) ⟨by omega,?_⟩ (by omega) (fun a ha=>by simp only [u32,u33,u34,u35,u36,u37,u38,u39];repeat rw [if_neg (by omega)])
      rw [hr,← hinv,abi,if_neg hy]
def YS (Yp:Nat):AC:=Qo [0,1] (.reg [mc 4 (V.bool false)]) (Qo [4] (.reg [mv 5 0,mv 6 1,cl 7 Yp [5,6],bc 8 .geq 7 (V.int 0),mv 4 8]) (.ret)) def r_slices_ContainsFunc___api_Known_api_Known:List X0:=[.tmp 4]
def YO (Γ:Env) (f:Nat):Prop:=∀ (xs:List JL) (g:Nat) (cap:List V) (p:JL→Bool) (hp:∀ x∈xs,EvN Γ g (JL.v x :: cap) (V.bool (p x))) (hcap:Qn cap) (hl:xs.length < 2 ^ 62),EvN Γ f [.sl 4 (xs.map JL.v),.clo g cap] (V.bool (xs.any p))
theorem VY {Γ:Env} {f Yp:Nat} (h:Has Γ.P f 9 (YS Yp) r_slices_ContainsFunc___api_Known_api_Known) (WF:YY Γ Yp):YO Γ f:=by
  intro xs g cap p hp hcap hl
  refine QQ h (by simp) (by simp only [V.closed,Qn,V.noSl,Jx,and_self,and_true,true_and]) (by simp only [V.closed,Qn,V.noSl,Jx,and_self,and_true,true_and]) fun C hC hm=>?_
  subst hC
  unfold YS
  have s1:∀ o,Wy o cap = cap:=fun o=>YW o cap hcap
  have s2:∀ o B,JU o B cap = True:=fun o B=>eq_true (Yo o B cap hcap)
  have hi:=(WF xs g cap p hp hcap hl).b
  have e1:=yg p xs 0
  repeat' (first|refine Qb fun K' hK=>?_|refine Qe fun K' hK=>?_|refine Qc ?_|refine Qd ?_|refine Qa ?_|((first|refine Qg ⟨_,rfl,fun hc=>?_,fun hc=>?_⟩|refine Qs (fun hc=>?_) (fun hc=>?_)|refine Qt (fun hc=>?_) (fun hc=>?_))<;>first|(cases hc;done)|((try simp only [znz] at hc);first|exact znf|skip))|refine Qi ?_|refine Qf ?_|simp (maxSteps:=1000000) only [go_sem,s1,s2,e1]|(refine hK _ ?_;clear hK K')|apply And.intro|(apply Qv;(focus first|exact hi|exact (WF _ _ _ _ zsd zsd zsd).b))|exact zlo|omega|exact zms)
  all_goals first|(refine QM _ rfl ?_;simp only [go_sem];done)
def agX (l:List Qu) (i:Int):List UInt8:=match l[i.toNat]? with|some p=>p.name|none=>[]
def an1 (l:List Qu) (i:Int):List Int:=match l[i.toNat]? with|some p=>p.ver|none=>[]
noncomputable def adl (l:List Qu) (a:Nat):List (List UInt8):=(yd l a).map (agX l)
noncomputable def q8 (l:List Qu) (s:List UInt8):V:=if (WQ l s).2 = 0 then .tup [.sl 1 ((adl l (WQ l s).1.toNat).map V.str),V.int 0] else .tup [.sl 1 [],V.int (WQ l s).2]
theorem aaw (l:List Qu) (s:List UInt8):(q8 l s).closed:=by unfold q8;split<;>simp only [V.closed,Qn,and_self]
theorem aef {l:List Qu} {s:List UInt8} (h:(WQ l s).2 = 0):Y8 l = 0∧∃ (a:Nat) (p:Qu),(WQ l s).1 = a∧l[a]? = some p∧p.name = s∧a < l.length:=by
  unfold WQ at h ⊢
  by_cases h1:Y8 l≠0
  · rw [if_pos h1] at h;exact absurd h h1
  · rw [if_neg h1] at h ⊢
    refine ⟨by simpa using h1,?_⟩
    by_cases h2:Vn l s < 0
    · rw [if_pos h2] at h;exact absurd h (by decide)
    · rw [if_neg h2]
      obtain ⟨j,x,e,hg,hx⟩:=acF (fun p:Qu=>p.name == s) l 0 (by unfold Vn at h2;omega)
      obtain ⟨hlt,_⟩:=List.getElem?_eq_some_iff.1 hg
      exact ⟨j,x,by show Vn l s = _;rw [Vn,e];simp,hg,by simpa using hx,hlt⟩
theorem v6 {l:List Qu} {i:Nat} {p:Qu} (h:l[i]? = some p):agX l i = p.name:=by unfold agX;rw [Int.toNat_natCast,h]
theorem agZ {l:List Qu} {i:Nat} {p:Qu} (h:l[i]? = some p):an1 l i = p.ver:=by unfold an1;rw [Int.toNat_natCast,h]
theorem acx {l:List Qu} {a:Nat}:(yd l a).length≤l.length:=by rw [yd,List.length_map];exact aj7
theorem afL {l:List Qu} {a j:Nat} {x:Int} (h:(yd l a)[j]? = some x):∃ (k:Nat) (p:Qu),x = k∧l[k]? = some p∧Rch l a k:=by
  obtain ⟨k,rfl,hk,hr⟩:=ym.1 (List.mem_of_getElem? h)
  exact ⟨k,l[k],rfl,List.getElem?_eq_getElem hk,hr⟩
def apO (l:List Qu) (R:List Int) (j:Nat):St:=Xy [(0,.sl 3 (l.map Qu.v)),(8,.hd 0 0 ((R.take j).map (agX l)).length),(22,.sl 1 (R.map V.int)),(23,V.int R.length),(24,V.int j)] [(0,.buf true 1 (((R.take j).map (agX l)).map V.str))] 1
def jZ (XO XP:Nat):AC:=Qo [0,1] (.reg [xo 4 (.mknil 1),mc 5 (V.int 0)]) (Qo [0,6,7] (.reg [mv 12 0,mv 13 1,cl 14 XO [12,13],mv 11 14,ex 15 11 0,ex 16 11 1,mv 6 15,mv 7 16]) (Qo [0,6] (Qo [0,6,7,18] (.reg [mv 17 7,bc 18 .neq 17 (V.int 0)]) (.cond (.t 18) (Qo [4,5] (.reg [mv 19 7,xo 4 (.mknil 1),mv 5 19]) (.ret)) (.skip))) (Qo [0,6,8] (.reg [xo 8 (.mknil 1)]) (Qo [8] (Qo [0,8,22,23,24] (.reg [mv 20 0,mv 21 6,cl 22 XP [20,21],ln 23 22,mc 24 (V.int 0)]) (.block 0 (X1 [0,8,22,23,24] (Qo [0,8,22,23,24,25] (.reg [bn 25 .lss 24 23]) (Qo [0,8,22,23,24] (.cond (.t 25) (.skip) (.exit 0)) (Qo [0,8,22,23,24] (.block 1 (Qo [0,8,10,22,23,24] (.reg [ia 26 1 22 24,ld 27 1 26,mv 10 27]) (.reg [mv 28 8,mv 29 0,mv 30 10,ia 31 3 29 30,fa 32 0 31,ld 33 1 32,xo 34 (.bslice 1 1 false [(.string ⟨#[]⟩)] [(0,(.t 33))]),xo 35 (.append 1 16 [(.string ⟨#[]⟩)] (.t 28) (.t 34)),mv 8 35]))) (.reg [bc 36 .add 24 (V.int 1),mv 24 36]))))))) (Qo [4,5] (.reg [mv 37 8,mv 4 37,mc 5 (V.int 0)]) (.ret)))))) def r_packages_Reach:List X0:=[.tmp 4,.tmp 5]
def jw (Γ:Env) (f:Nat):Prop:=∀ (l:List Qu) (s:List UInt8) (hl:PSz l) (hl2:l.length≤12),EvC Γ f [.sl 3 (l.map Qu.v),V.str s] (q8 l s)
theorem ac0 {Γ:Env} {f XO XP:Nat} (h:Has Γ.P f 38 (jZ XO XP) r_packages_Reach) (JM:Kb Γ XO) (JN:Kc Γ XP):jw Γ f:=by
  intro l s hl hl2
  refine W1 h (by simp) (aaw _ _) fun C hC hm=>?_
  subst hC
  unfold jZ
  have gS:=(JM l s hl).b
  unfold q8
  by_cases h0:(WQ l s).2 = 0
  case neg =>
    rw [if_neg h0]
    generalize WQ l s = q at *
    obtain ⟨q1,q2⟩:=q
    dsimp only at *
    have e1:(q2 != 0) = true:=by simpa using h0
    repeat' (first|refine Qb fun K' hK=>?_|refine Qe fun K' hK=>?_|refine Qc ?_|refine Qd ?_|refine Qa ?_|((first|refine Qg ⟨_,rfl,fun hc=>?_,fun hc=>?_⟩|refine Qs (fun hc=>?_) (fun hc=>?_)|refine Qt (fun hc=>?_) (fun hc=>?_))<;>first|(cases hc;done)|((try simp only [znz] at hc);first|exact znf|skip))|refine Qi ?_|refine Qf ?_|simp (maxSteps:=1000000) only [go_sem,e1]|(refine hK _ ?_;clear hK K')|apply And.intro|(apply Qv;(focus first|exact gS|exact (JM _ _ zsd).b|exact (JN _ _ zsd zsd zsd).b))|exact zlo|omega|exact zms)
    all_goals first|(refine QM _ rfl ?_;simp only [go_sem];first|done|rfl|exact ⟨_,_,rfl⟩)
  rw [if_pos h0]
  obtain ⟨_,a,p0,ea,hp0,_,halt⟩:=aef h0
  rw [ea,Int.toNat_natCast]
  rw [ea,h0] at gS
  have gR:=JN l a hl halt hl2
  unfold adl
  have hRl:=acx (l:=l) (a:=a)
  have hRg:=@afL l a
  generalize yd l a = R at *
  have hRm:(R.map V.int).length = R.length:=List.length_map _
  repeat' (first|refine Qb fun K' hK=>?_|refine Qe fun K' hK=>?_|refine Qc ?_|refine Qd ?_|refine Qa ?_|((first|refine Qg ⟨_,rfl,fun hc=>?_,fun hc=>?_⟩|refine Qs (fun hc=>?_) (fun hc=>?_)|refine Qt (fun hc=>?_) (fun hc=>?_))<;>first|(cases hc;done)|((try simp only [znz] at hc);first|exact znf|skip))|refine Qi ?_|refine Qf ?_|simp (maxSteps:=1000000) only [go_sem,hRm]|(refine hK _ ?_;clear hK K')|apply And.intro|(apply Qv;(focus first|exact gS|exact gR.b|exact (JM _ _ zsd).b|exact (JN _ _ zsd zsd zsd).b))|exact zlo|omega|exact zms)
  refine JR (ι:=Nat) (fun j=>j≤R.length) (fun j=>apO l R j) (fun j=>R.length - j) 0 (by omega) (QO [(0,12000)]) (JE [(0,12000)] (by simp only [go_sem,and_true,true_and,implies_true,Option.some.injEq,exists_eq_left',Qh,Qj];(repeat' (first|rfl|apply And.intro|omega|exact fun h=>h|exact Exists.intro _ rfl))) (by simp only [go_sem,and_true,true_and,implies_true,Option.some.injEq,exists_eq_left',Qh,Qj];(repeat' (first|rfl|apply And.intro|omega|exact fun h=>h|exact Exists.intro _ rfl))) (by simp [QO]) (by simp;omega) (by omega)) fun j hj K' hL=>?_
  rcases hd:R.drop j with _|⟨x,r⟩
  · have hkl:=Xx hd
    have e1:decide ((j:Int) < (R.length:Int)) = false:=by simp;omega
    have e3:R.take j = R:=List.take_of_length_le hkl
    repeat' (first|refine Qb fun K' hK=>?_|refine Qe fun K' hK=>?_|refine Qc ?_|refine Qd ?_|refine Qa ?_|((first|refine Qg ⟨_,rfl,fun hc=>?_,fun hc=>?_⟩|refine Qs (fun hc=>?_) (fun hc=>?_)|refine Qt (fun hc=>?_) (fun hc=>?_))<;>first|(cases hc;done)|((try simp only [znz] at hc);first|exact znf|skip))|refine Qi ?_|refine Qf ?_|simp (maxSteps:=1000000) only [go_sem,apO,Xy,e1,e3]|(refine hK _ ?_;clear hK K')|apply And.intro|(apply Qv;(focus first|exact (JM _ _ zsd).b|exact (JN _ _ zsd zsd zsd).b))|exact zlo|omega|exact zms)
    all_goals first|(refine QM _ rfl ?_;simp only [go_sem];rw [VF];first|done|rfl|exact ⟨_,_,rfl⟩)
  · obtain ⟨hk',hget,hr⟩:=Yy hd
    obtain ⟨k,p,rfl,hp,_⟩:=hRg hget
    have hw:=Jq (k:=j) (by omega)
    have e1:decide ((j:Int) < (R.length:Int)) = true:=by simp;omega
    have vx:(R.map V.int)[j]? = some (V.int k):=by rw [List.getElem?_map,hget];rfl
    have vp:(l.map Qu.v)[k]? = some (.agg [V.str p.name,.sl 1 (p.ver.map V.int),.sl 3 (p.needs.map JS.v)]):=by rw [List.getElem?_map,hp];rfl
    have hns:(R.take (j + 1)).map (agX l) = (R.take j).map (agX l)++[p.name]:=by rw [List.take_add_one,hget,List.map_append];simp [v6 hp]
    have hnl:((R.take j).map (agX l)).length≤j:=by rw [List.length_map,List.length_take];omega
    have hL':∀ (s':St) (τ:Nat→Nat),afe C.m τ s' (apO l R (j + 1))→K' s':=fun s' τ hw=>hL s' (j + 1) τ (by omega) (by omega) hw
    unfold apO at hL' ⊢
    rw [hns] at hL'
    generalize (R.take j).map (agX l) = ns at *
    have hbb:List.map V.str ns++[V.str p.name] = (ns++[p.name]).map V.str:=by rw [List.map_append];rfl
    have hln:ns.length + 1 = (ns++[p.name]).length:=by simp
    repeat' (first|refine Qb fun K' hK=>?_|refine Qe fun K' hK=>?_|refine Qc ?_|refine Qd ?_|refine Qa ?_|((first|refine Qg ⟨_,rfl,fun hc=>?_,fun hc=>?_⟩|refine Qs (fun hc=>?_) (fun hc=>?_)|refine Qt (fun hc=>?_) (fun hc=>?_))<;>first|(cases hc;done)|((try simp only [znz] at hc);first|exact znf|skip))|refine Qi ?_|refine Qf ?_|simp (maxSteps:=1000000) only [go_sem,Xy,e1,hw,Int.toNat_natCast,vx,vp,VF,hbb,hln]|(refine hK _ ?_;clear hK K')|apply And.intro|(apply Qv;(focus first|exact (JM _ _ zsd).b|exact (JN _ _ zsd zsd zsd).b))|exact zlo|omega|exact zms)
    all_goals first
      | (exact hL' _ (QO [(0,11001)]) (JE [(0,11001)] (by simp only [go_sem,and_true,true_and,implies_true,Option.some.injEq,exists_eq_left',Qh,Qj];(repeat' (first|rfl|apply And.intro|omega|exact fun h=>h|exact Exists.intro _ rfl))) (by simp only [go_sem,and_true,true_and,implies_true,Option.some.injEq,exists_eq_left',Qh,Qj];(repeat' (first|rfl|apply And.intro|omega|exact fun h=>h|exact Exists.intro _ rfl))) (by simp [QO]) (by simp;omega) (by omega)))
end Av
end
section
set_option linter.unusedSimpArgs false
set_option linter.unusedVariables false
set_option maxRecDepth 10000
set_option maxHeartbeats 4000000
namespace Av
open Go
attribute [local irreducible] AWp WY Vp Vq awS awC V1 awQ Uh Q9 YQ VZ awR YT awB okR Ww ris
def aiC (l:List Qu) (i:Int) (x:JL):Bool:=x.name == agX l i && inV x.lo x.up (an1 l i)
def afd (l:List Qu) (i:Int) (x:JL):List PU:=if aiC l i x then x.uses else []
def akZ (l:List Qu) (ks:List JL) (i:Int):List PU:=ks.flatMap (afd l i)
noncomputable def adW (l:List Qu) (ks:List JL) (a:Nat):List PU:=(yd l a).flatMap (akZ l ks)
def eqU (x y:PU):Bool:=x.1 == y.1 && x.2 == y.2
def ltU (x y:PU):Bool:=decide (ako x y < 0)
noncomputable def ag0 (l:List Qu) (ks:List JL) (a:Nat):List PU:=aap eqU (Uq ltU (adW l ks a))
def ans (ks:List JL):Bool:=ks.any fun x=>!Wt x.lo x.up
def akO (u:PU):Bool:=!decide (Vf u.1 u.2 > 0)
def ant (ks:List JL):Bool:=ks.any fun x=>x.uses.any akO
noncomputable def abn (l:List Qu) (ks:List JL) (s:List UInt8):Int:=if (WQ l s).2≠0 then (WQ l s).2 else if ans ks then 22 else if ant ks then 7 else 0
noncomputable def aif (l:List Qu) (ks:List JL) (s:List UInt8):List PU:=if abn l ks s = 0 then ag0 l ks (WQ l s).1.toNat else []
noncomputable def ads (l:List Qu) (ks:List JL) (s:List UInt8):V:=.tup [.sl 2 ((aif l ks s).map usV),V.int (abn l ks s)]
theorem adi (l:List Qu) (ks:List JL) (s:List UInt8):(ads l ks s).closed:=by unfold ads;simp only [V.closed,Qn,and_self]
def JL.Sz (x:JL):Prop:=x.lo.length < 2 ^ 60∧x.up.length < 2 ^ 60∧x.uses.length < 2 ^ 60∧∀ u∈x.uses,u.1.natAbs < 2 ^ 60∧u.2.natAbs < 2 ^ 60
def KSz (ks:List JL):Prop:=ks.length < 2 ^ 60∧∀ x∈ks,x.Sz
theorem agE {α β:Type} {f:α→List β} {l:List α} {k:Nat} {x:α} (h:l[k]? = some x):(l.take (k + 1)).flatMap f = (l.take k).flatMap f++f x:=by
  rw [List.take_add_one,h,List.flatMap_append];simp
theorem ahI {α β:Type} {f:α→List β} (l:List α) (k:Nat):((l.take k).flatMap f).length≤(l.flatMap f).length:=by
  have:(l.flatMap f) = (l.take k).flatMap f++(l.drop k).flatMap f:=by rw [← List.flatMap_append,List.take_append_drop]
  rw [this,List.length_append];omega
def ao5 (l:List Qu) (ks:List JL) (R:List Int) (out:List PU) (j:Nat):St:=Xy [(0,.sl 3 (l.map Qu.v)),(1,.sl 4 (ks.map JL.v)),(11,.hd 0 0 out.length),(32,.sl 1 (R.map V.int)),(33,V.int R.length),(34,V.int j)] [(0,.buf true 2 (out.map usV))] 1
def abo (l:List Qu) (ks:List JL) (R:List Int) (out:List PU) (j:Nat) (i:Nat) (m:Nat):St:=Xy [(0,.sl 3 (l.map Qu.v)),(1,.sl 4 (ks.map JL.v)),(11,.hd 0 0 out.length),(13,V.int i),(32,.sl 1 (R.map V.int)),(33,V.int R.length),(34,V.int j),(38,.sl 4 (ks.map JL.v)),(39,V.int ks.length),(40,V.int m)] [(0,.buf true 2 (out.map usV))] 1
def ja (Jc:Nat):List AO:=[fa 44 0 15,ld 45 1 44,mv 46 0,mv 47 13,ia 48 3 46 47,fa 49 0 48,ld 50 1 49,bn 51 .eql 45 50,mv 52 51,xg 53 (.faddr 1 (.t 15)) 52 true,xg 54 (.load true 2 (.t 53)) 52 true,mg 55 0 52 true,mg 56 13 52 true,xg 57 (.iaddr 3 (.t 55) (.t 56)) 52 true,xg 58 (.faddr 1 (.t 57)) 52 true,xg 59 (.load false 1 (.t 58)) 52 true,xg 60 (.call Jc [(.t 54),(.t 59)]) 52 true,xo 61 (.pick (.t 52) (.t 60) (.c (V.bool false)))]
def jq:List (List Nat):=[[],[0],[],[],[2,3],[4],[5],[1,6],[7],[8],[9,8],[8],[8],[11,12,8],[13,8],[14,8],[10,15,8,8],[8,16]]
def qY:OT:=.one 0 (.one 1 (.one 2 (.one 3 (.one 4 (.one 5 (.one 6 (.one 7 (.one 8 (.one 9 (.one 10 (.one 11 (.one 12 (.one 13 (.one 14 (.one 15 (.one 16 (.one 17 (.done))))))))))))))))))
def Yq (Jc:Nat):OP:=.one 0 false [] (fa 44 0 15) (.one 1 false [] (ld 45 1 44) (.one 2 false [] (mv 46 0) (.one 3 false [] (mv 47 13) (.one 4 false [] (ia 48 3 46 47) (.one 5 false [] (fa 49 0 48) (.one 6 false [] (ld 50 1 49) (.one 7 false [] (bn 51 .eql 45 50) (.one 8 false [] (mv 52 51) (.one 9 false [] (xg 53 (.faddr 1 (.t 15)) 52 true) (.one 10 false [] (xg 54 (.load true 2 (.t 53)) 52 true) (.one 11 false [] (mg 55 0 52 true) (.one 12 false [] (mg 56 13 52 true) (.one 13 false [] (xg 57 (.iaddr 3 (.t 55) (.t 56)) 52 true) (.one 14 false [] (xg 58 (.faddr 1 (.t 57)) 52 true) (.one 15 false [] (xg 59 (.load false 1 (.t 58)) 52 true) (.one 16 false [] (xg 60 (.call Jc [(.t 54),(.t 59)]) 52 true) (.one 17 false [16] (xo 61 (.pick (.t 52) (.t 60) (.c (V.bool false)))) (.done))))))))))))))))))
theorem Jw (Jc:Nat):okR (ja Jc) jq [] qY = true:=by kernel_rfl
theorem Jv (Jc:Nat):Ww (ris (ja Jc) jq []) qY = Yq Jc:=by kernel_rfl def c_packages_Uses (XO JK VQ Ve VP XP Jc YR Kr YU:Nat):AC:=Qo [0,1,2] (.reg [xo 6 (.mknil 2),mc 7 (V.int 0)]) (Qo [0,1,8,9] (.reg [mv 17 0,mv 18 2,cl 19 XO [17,18],mv 16 19,ex 20 16 0,ex 21 16 1,mv 8 20,mv 9 21]) (Qo [0,1,8] (Qo [0,1,8,9,23] (.reg [mv 22 9,bc 23 .neq 22 (V.int 0)]) (.cond (.t 23) (Qo [6,7] (.reg [mv 24 9,xo 6 (.mknil 2),mv 7 24]) (.ret)) (.skip))) (Qo [0,1,8] (Qo [0,1,8,26] (.reg [mv 25 1,xo 26 (.call JK [(.t 25),(.c (.clo VQ []))])]) (.cond (.t 26) (Qo [6,7] (.reg [xo 6 (.mknil 2),mc 7 (V.int 22)]) (.ret)) (.skip))) (Qo [0,1,8,10] (.reg [xo 10 (.alloc [.val .nilFunc]),⟨none,.store 1 (.t 10) (.c (.clo Ve [])),none⟩]) (Qo [0,1,8] (Qo [0,1,8,29] (.reg [mv 27 1,xo 28 (.mkfn VP [(.t 10)]),cl 29 JK [27,28]]) (.cond (.t 29) (Qo [6,7] (.reg [xo 6 (.mknil 2),mc 7 (V.int 7)]) (.ret)) (.skip))) (Qo [0,1,8,11] (.reg [xo 11 (.mknil 2)]) (Qo [11] (Qo [0,1,11,32,33,34] (.reg [mv 30 0,mv 31 8,cl 32 XP [30,31],ln 33 32,mc 34 (V.int 0)]) (.block 0 (X1 [0,1,11,32,33,34] (Qo [0,1,11,32,33,34,35] (.reg [bn 35 .lss 34 33]) (Qo [0,1,11,32,33,34] (.cond (.t 35) (.skip) (.exit 0)) (Qo [0,1,11,32,33,34] (.block 1 (Qo [0,1,11,13,32,33,34] (.reg [ia 36 1 32 34,ld 37 1 36,mv 13 37]) (Qo [0,1,11,13,32,33,34,38,39,40] (.reg [mv 38 1,ln 39 38,mc 40 (V.int 0)]) (.block 2 (X1 [0,1,11,13,32,33,34,38,39,40] (Qo [0,1,11,13,32,33,34,38,39,40,41] (.reg [bn 41 .lss 40 39]) (Qo [0,1,11,13,32,33,34,38,39,40] (.cond (.t 41) (.skip) (.exit 2)) (Qo [0,1,11,13,32,33,34,38,39,40] (.block 3 (Qo [0,1,11,13,15,32,33,34,38,39,40] (.reg [ia 42 4 38 40,xo 43 (.load true 4 (.t 42)),xo 15 (.alloc [.val (.string ⟨#[]⟩),.nil 1,.nil 1,.nil 2]),xs 4 15 43]) (Qo [0,1,11,13,15,32,33,34,38,39,40,61] (ach [] qY (Yq Jc) (ja Jc) jq) (.cond (.t 61) (.reg [mv 62 11,fa 63 3 15,ld 64 1 63,xo 65 (.append 2 16 [(.int .i64 0),(.int .i64 0)] (.t 62) (.t 64)),mv 11 65]) (.skip))))) (.reg [bc 66 .add 40 (V.int 1),mv 40 66]))))))))) (.reg [bc 67 .add 34 (V.int 1),mv 34 67]))))))) (Qo [11] (.reg [mv 68 11,xo 69 (.call YR [(.t 68),(.c (.clo Kr []))])]) (Qo [6,7] (.reg [mv 70 11,cl 71 YU [70],mv 6 71,mc 7 (V.int 0)]) (.ret)))))))))) def r_packages_Uses:List X0:=[.tmp 6,.tmp 7]
def j9 (Γ:Env) (f:Nat):Prop:=∀ (l:List Qu) (ks:List JL) (s:List UInt8) (hl:PSz l) (hl2:l.length≤12) (hk:KSz ks) (hn:∀ a,Y8 l = 0→(adW l ks a).length≤12),EvC Γ f [.sl 3 (l.map Qu.v),.sl 4 (ks.map JL.v),V.str s] (ads l ks s)
theorem adN {Γ:Env} {f XO JK VQ Ve VP XP Jc YR Kr YU:Nat} (h:Has Γ.P f 72 (c_packages_Uses XO JK VQ Ve VP XP Jc YR Kr YU) r_packages_Uses) (JM:Kb Γ XO) (QN:YO Γ JK) (YC:qN Γ VQ) (YB:qM Γ Ve) (YA:qL Γ VP) (JN:Kc Γ XP) (J0:Kw Γ Jc) (Q6:XK Γ YR) (XE:yZ Γ Kr) (Q8:XZ Γ YU):j9 Γ f:=by
  intro l ks s hl hl2 hk hn
  refine W1 h (by simp) (adi _ _ _) fun C hC hm=>?_
  subst hC
  unfold c_packages_Uses
  have gS:=(JM l s hl).b
  have g1:=(QN ks VQ [] (fun x=>!Wt x.lo x.up) (fun x hx=>YC x (hk.2 x hx).1 (hk.2 x hx).2.1) trivial (by have:=hk.1;omega)).b
  have g2:=(QN ks VP [.ro [.clo Ve []] 0] (fun x=>x.uses.any akO) (fun x hx=>YA x Ve akO (fun u _=>YB u) (hk.2 x hx).2.2.1) (by simp [Qn,V.closed]) (by have:=hk.1;omega)).b
  unfold ads aif
  by_cases h0:(WQ l s).2 = 0
  case neg =>
    have e9:abn l ks s = (WQ l s).2:=by unfold abn;rw [if_pos h0]
    rw [e9,if_neg h0]
    generalize WQ l s = q at *
    obtain ⟨q1,q2⟩:=q
    dsimp only at *
    have e1:(q2 != 0) = true:=by simpa using h0
    repeat' (first|refine Qb fun K' hK=>?_|refine Qe fun K' hK=>?_|refine Ql 18 (fun _=>true) rfl (Jw _) (Jv _) fun K' hK=>?_|refine Qm 18 (fun _=>true) rfl (Jw _) (Jv _) fun K' hK=>?_|refine Qc ?_|refine Qd ?_|refine Qa ?_|((first|refine Qg ⟨_,rfl,fun hc=>?_,fun hc=>?_⟩|refine Qs (fun hc=>?_) (fun hc=>?_)|refine Qt (fun hc=>?_) (fun hc=>?_))<;>first|(cases hc;done)|((try simp only [znz] at hc);first|exact znf|skip))|refine Qi ?_|refine Qf ?_|simp (maxSteps:=1000000) only [go_sem,e1,Yq]|(refine hK _ ?_;clear hK K')|apply And.intro|(apply aaA;(focus exact rfl);(focus first|exact (Q8 _ zsd));(focus exact rfl);(focus (first|(simp;done)|omega|(simp only [List.length_map];omega))))|(apply Ut;(focus exact rfl);(focus first|exact (Q6 _ _ _ zsd zsd));(focus exact rfl);(focus (first|(simp;done)|omega|(simp only [List.length_map];omega))))|((first|apply Qv|apply Jm);(focus first|exact gS|exact (JM _ _ zsd).b|exact (QN _ _ _ _ zsd zsd zsd).b|exact (YC _ zsd zsd).b|exact (YB _).b|exact (YA _ _ _ zsd zsd).b|exact (JN _ _ zsd zsd zsd).b|exact (J0 _ _ _ zsd zsd zsd).b|exact (XE _ _ zsd zsd zsd zsd).b))|exact zlo|omega|exact zms)
    all_goals first|(refine QM _ rfl ?_;simp only [go_sem];first|done|rfl|exact ⟨_,_,rfl⟩)
  obtain ⟨hck,a,p0,ea,hp0,_,halt⟩:=aef h0
  have hn:=hn a hck
  rw [ea,Int.toNat_natCast]
  rw [ea,h0] at gS
  have e9:abn l ks s = if ans ks then 22 else if ant ks then 7 else 0:=by unfold abn;rw [if_neg (by simpa using h0)]
  rw [e9]
  rw [show (ks.any fun x=>!Wt x.lo x.up) = ans ks from rfl] at g1
  rw [show (ks.any fun x=>x.uses.any akO) = ant ks from rfl] at g2
  rcases hb1:ans ks with _|_
  case true =>
    rw [hb1] at g1
    repeat' (first|refine Qb fun K' hK=>?_|refine Qe fun K' hK=>?_|refine Ql 18 (fun _=>true) rfl (Jw _) (Jv _) fun K' hK=>?_|refine Qm 18 (fun _=>true) rfl (Jw _) (Jv _) fun K' hK=>?_|refine Qc ?_|refine Qd ?_|refine Qa ?_|((first|refine Qg ⟨_,rfl,fun hc=>?_,fun hc=>?_⟩|refine Qs (fun hc=>?_) (fun hc=>?_)|refine Qt (fun hc=>?_) (fun hc=>?_))<;>first|(cases hc;done)|((try simp only [znz] at hc);first|exact znf|skip))|refine Qi ?_|refine Qf ?_|simp (maxSteps:=1000000) only [go_sem,Yq]|(refine hK _ ?_;clear hK K')|apply And.intro|(apply aaA;(focus exact rfl);(focus first|exact (Q8 _ zsd));(focus exact rfl);(focus (first|(simp;done)|omega|(simp only [List.length_map];omega))))|(apply Ut;(focus exact rfl);(focus first|exact (Q6 _ _ _ zsd zsd));(focus exact rfl);(focus (first|(simp;done)|omega|(simp only [List.length_map];omega))))|((first|apply Qv|apply Jm);(focus first|exact gS|exact g1|exact (JM _ _ zsd).b|exact (QN _ _ _ _ zsd zsd zsd).b|exact (YC _ zsd zsd).b|exact (YB _).b|exact (YA _ _ _ zsd zsd).b|exact (JN _ _ zsd zsd zsd).b|exact (J0 _ _ _ zsd zsd zsd).b|exact (XE _ _ zsd zsd zsd zsd).b))|exact zlo|omega|exact zms)
    all_goals first|(refine QM _ rfl ?_;simp only [go_sem];first|done|rfl|exact ⟨_,_,rfl⟩)
  rcases hb2:ant ks with _|_
  case true =>
    rw [hb2] at g2
    rw [hb1] at g1
    repeat' (first|refine Qb fun K' hK=>?_|refine Qe fun K' hK=>?_|refine Ql 18 (fun _=>true) rfl (Jw _) (Jv _) fun K' hK=>?_|refine Qm 18 (fun _=>true) rfl (Jw _) (Jv _) fun K' hK=>?_|refine Qc ?_|refine Qd ?_|refine Qa ?_|((first|refine Qg ⟨_,rfl,fun hc=>?_,fun hc=>?_⟩|refine Qs (fun hc=>?_) (fun hc=>?_)|refine Qt (fun hc=>?_) (fun hc=>?_))<;>first|(cases hc;done)|((try simp only [znz] at hc);first|exact znf|skip))|refine Qi ?_|refine Qf ?_|simp (maxSteps:=1000000) only [go_sem,Yq]|(refine hK _ ?_;clear hK K')|apply And.intro|(apply aaA;(focus exact rfl);(focus first|exact (Q8 _ zsd));(focus exact rfl);(focus (first|(simp;done)|omega|(simp only [List.length_map];omega))))|(apply Ut;(focus exact rfl);(focus first|exact (Q6 _ _ _ zsd zsd));(focus exact rfl);(focus (first|(simp;done)|omega|(simp only [List.length_map];omega))))|((first|apply Qv|apply Jm);(focus first|exact gS|exact g1|exact g2|exact (JM _ _ zsd).b|exact (QN _ _ _ _ zsd zsd zsd).b|exact (YC _ zsd zsd).b|exact (YB _).b|exact (YA _ _ _ zsd zsd).b|exact (JN _ _ zsd zsd zsd).b|exact (J0 _ _ _ zsd zsd zsd).b|exact (XE _ _ zsd zsd zsd zsd).b))|exact zlo|omega|exact zms)
    all_goals first|(refine QM _ rfl ?_;simp only [go_sem];first|done|rfl|exact ⟨_,_,rfl⟩)
  rw [hb2] at g2
  rw [hb1] at g1
  simp only [Bool.false_eq_true,if_false,if_true]
  have gR:=JN l a hl halt hl2
  unfold ag0
  have hall:∀ u∈adW l ks a,u.1.natAbs < 2 ^ 60∧u.2.natAbs < 2 ^ 60:=by
    intro u hu
    simp only [adW,List.mem_flatMap,akZ,afd] at hu
    obtain ⟨_,_,x,hx,hu⟩:=hu
    split at hu
    · exact (hk.2 x hx).2.2.2 u hu
    · exact absurd hu (by simp)
  unfold adW at *
  have hRl:=acx (l:=l) (a:=a)
  have hRg:=@afL l a
  generalize yd l a = R at *
  have hRm:(R.map V.int).length = R.length:=List.length_map _
  repeat' (first|refine Qb fun K' hK=>?_|refine Qe fun K' hK=>?_|refine Ql 18 (fun _=>true) rfl (Jw _) (Jv _) fun K' hK=>?_|refine Qm 18 (fun _=>true) rfl (Jw _) (Jv _) fun K' hK=>?_|refine Qc ?_|refine Qd ?_|refine Qa ?_|((first|refine Qg ⟨_,rfl,fun hc=>?_,fun hc=>?_⟩|refine Qs (fun hc=>?_) (fun hc=>?_)|refine Qt (fun hc=>?_) (fun hc=>?_))<;>first|(cases hc;done)|((try simp only [znz] at hc);first|exact znf|skip))|refine Qi ?_|refine Qf ?_|simp (maxSteps:=1000000) only [go_sem,hRm,Yq]|(refine hK _ ?_;clear hK K')|apply And.intro|(apply aaA;(focus exact rfl);(focus first|exact (Q8 _ zsd));(focus exact rfl);(focus (first|(simp;done)|omega|(simp only [List.length_map];omega))))|(apply Ut;(focus exact rfl);(focus first|exact (Q6 _ _ _ zsd zsd));(focus exact rfl);(focus (first|(simp;done)|omega|(simp only [List.length_map];omega))))|((first|apply Qv|apply Jm);(focus first|exact gS|exact g1|exact g2|exact gR.b|exact (JM _ _ zsd).b|exact (QN _ _ _ _ zsd zsd zsd).b|exact (YC _ zsd zsd).b|exact (YB _).b|exact (YA _ _ _ zsd zsd).b|exact (JN _ _ zsd zsd zsd).b|exact (J0 _ _ _ zsd zsd zsd).b|exact (XE _ _ zsd zsd zsd zsd).b))|exact zlo|omega|exact zms)
  refine JR (ι:=List PU×Nat) (fun q=>q.2≤R.length∧q.1 = (R.take q.2).flatMap (akZ l ks)) (fun q=>ao5 l ks R q.1 q.2) (fun q=>R.length - q.2) ([],0) ⟨by simp,by simp⟩ (QO [(0,19000)]) (JE [(0,19000)] (by simp only [go_sem,and_true,true_and,implies_true,Option.some.injEq,exists_eq_left',Qh,Qj];(repeat' (first|rfl|apply And.intro|omega|exact fun h=>h|exact Exists.intro _ rfl))) (by simp only [go_sem,and_true,true_and,implies_true,Option.some.injEq,exists_eq_left',Qh,Qj];(repeat' (first|rfl|apply And.intro|omega|exact fun h=>h|exact Exists.intro _ rfl))) (by simp [QO]) (by simp;omega) (by omega)) fun q hq K' hL=>?_
  obtain ⟨out,j⟩:=q
  obtain ⟨hj,hout⟩:=hq
  dsimp only at hj hout
  have hol:out.length≤12:=by rw [hout];exact Nat.le_trans (ahI R j) hn
  rcases hd:R.drop j with _|⟨x,r⟩
  · have hkl:=Xx hd
    have e1:decide ((j:Int) < (R.length:Int)) = false:=by simp;omega
    have e3:R.take j = R:=List.take_of_length_le hkl
    rw [e3] at hout
    rw [← hout] at hall ⊢
    have htk:List.take out.length ((Uq ltU out).map usV) = (Uq ltU out).map usV:=List.take_of_length_le (by rw [List.length_map,yy];omega)
    have hgl:(Uq ltU out).length = out.length:=yy _ _
    have gT:=Q6 out Kr ako (fun x hx y hy=>XE x y (hall x hx).1 (hall x hx).2 (hall y hy).1 (hall y hy).2) hol
    have d1:(fun x y:PU=>decide (ako x y < 0)) = ltU:=rfl
    rw [d1] at gT
    have gC:=Q8 (Uq ltU out) (by rw [yy];omega)
    have d2:(fun x y:PU=>x.1 == y.1 && x.2 == y.2) = eqU:=rfl
    rw [d2] at gC
    repeat' (first|refine Qb fun K' hK=>?_|refine Qe fun K' hK=>?_|refine Ql 18 (fun _=>true) rfl (Jw _) (Jv _) fun K' hK=>?_|refine Qm 18 (fun _=>true) rfl (Jw _) (Jv _) fun K' hK=>?_|refine Qc ?_|refine Qd ?_|refine Qa ?_|((first|refine Qg ⟨_,rfl,fun hc=>?_,fun hc=>?_⟩|refine Qs (fun hc=>?_) (fun hc=>?_)|refine Qt (fun hc=>?_) (fun hc=>?_))<;>first|(cases hc;done)|((try simp only [znz] at hc);first|exact znf|skip))|refine Qi ?_|refine Qf ?_|simp (maxSteps:=1000000) only [go_sem,ao5,Xy,e1,e3,htk,Yq]|(refine hK _ ?_;clear hK K')|apply And.intro|(apply aaA;(focus exact rfl);(focus first|exact gC|exact (Q8 _ zsd));(focus exact rfl);(focus (first|(simp;done)|omega|(simp only [List.length_map];omega))))|(apply Ut;(focus exact rfl);(focus first|exact gT|exact (Q6 _ _ _ zsd zsd));(focus exact rfl);(focus (first|(simp;done)|omega|(simp only [List.length_map];omega))))|((first|apply Qv|apply Jm);(focus first|exact (JM _ _ zsd).b|exact (QN _ _ _ _ zsd zsd zsd).b|exact (YC _ zsd zsd).b|exact (YB _).b|exact (YA _ _ _ zsd zsd).b|exact (JN _ _ zsd zsd zsd).b|exact (J0 _ _ _ zsd zsd zsd).b|exact (XE _ _ zsd zsd zsd zsd).b))|exact zlo|omega|exact zms)
    all_goals
      refine QM _ rfl ?_;simp only [go_sem]
      rw [List.take_append_of_le_length (by simp),List.take_of_length_le (by simp)]
      first|done|exact ⟨_,_,rfl⟩
  · obtain ⟨hk',hget,hr⟩:=Yy hd
    obtain ⟨i,p,rfl,hp,_⟩:=hRg hget
    have hpz:=hl.2 p (List.mem_of_getElem? hp)
    have hw:=Jq (k:=j) (by omega)
    have e1:decide ((j:Int) < (R.length:Int)) = true:=by simp;omega
    have vx:(R.map V.int)[j]? = some (V.int i):=by rw [List.getElem?_map,hget];rfl
    have vp:(l.map Qu.v)[i]? = some (.agg [V.str p.name,.sl 1 (p.ver.map V.int),.sl 3 (p.needs.map JS.v)]):=by rw [List.getElem?_map,hp];rfl
    have hR1:=agE (f:=akZ l ks) hget
    have hRn:=ahI (f:=akZ l ks) R (j + 1)
    rw [hR1,← hout,List.length_append] at hRn
    have hkm:(ks.map JL.v).length = ks.length:=List.length_map _
    repeat' (first|refine Qb fun K' hK=>?_|refine Qe fun K' hK=>?_|refine Ql 18 (fun _=>true) rfl (Jw _) (Jv _) fun K' hK=>?_|refine Qm 18 (fun _=>true) rfl (Jw _) (Jv _) fun K' hK=>?_|refine Qc ?_|refine Qd ?_|refine Qa ?_|((first|refine Qg ⟨_,rfl,fun hc=>?_,fun hc=>?_⟩|refine Qs (fun hc=>?_) (fun hc=>?_)|refine Qt (fun hc=>?_) (fun hc=>?_))<;>first|(cases hc;done)|((try simp only [znz] at hc);first|exact znf|skip))|refine Qi ?_|refine Qf ?_|simp (maxSteps:=1000000) only [go_sem,ao5,Xy,e1,vx,Int.toNat_natCast,hkm,Yq]|(refine hK _ ?_;clear hK K')|apply And.intro|(apply aaA;(focus exact rfl);(focus first|exact (Q8 _ zsd));(focus exact rfl);(focus (first|(simp;done)|omega|(simp only [List.length_map];omega))))|(apply Ut;(focus exact rfl);(focus first|exact (Q6 _ _ _ zsd zsd));(focus exact rfl);(focus (first|(simp;done)|omega|(simp only [List.length_map];omega))))|((first|apply Qv|apply Jm);(focus first|exact (JM _ _ zsd).b|exact (QN _ _ _ _ zsd zsd zsd).b|exact (YC _ zsd zsd).b|exact (YB _).b|exact (YA _ _ _ zsd zsd).b|exact (JN _ _ zsd zsd zsd).b|exact (J0 _ _ _ zsd zsd zsd).b|exact (XE _ _ zsd zsd zsd zsd).b))|exact zlo|omega|exact zms)
    refine JR (ι:=List PU×Nat) (fun q=>q.2≤ks.length∧q.1 = out++(ks.take q.2).flatMap (afd l i)) (fun q=>abo l ks R q.1 j i q.2) (fun q=>ks.length - q.2) (out,0) ⟨by simp,by simp⟩ (QO []) (JE [] (by simp only [go_sem,and_true,true_and,implies_true,Option.some.injEq,exists_eq_left',Qh,Qj,abo];(repeat' (first|rfl|apply And.intro|omega|exact fun h=>h|exact Exists.intro _ rfl))) (by simp only [go_sem,and_true,true_and,implies_true,Option.some.injEq,exists_eq_left',Qh,Qj,abo];(repeat' (first|rfl|apply And.intro|omega|exact fun h=>h|exact Exists.intro _ rfl))) (by simp [QO]) (by simp) (by omega)) fun q hq K2 hL2=>?_
    obtain ⟨out2,m⟩:=q
    obtain ⟨hm',hout2⟩:=hq
    dsimp only at hm' hout2
    rcases hd2:ks.drop m with _|⟨x,r2⟩
    · have hkl:=Xx hd2
      have e2:decide ((m:Int) < (ks.length:Int)) = false:=by simp;omega
      have e3:ks.take m = ks:=List.take_of_length_le hkl
      rw [e3] at hout2
      repeat' (first|refine Qb fun K' hK=>?_|refine Qe fun K' hK=>?_|refine Ql 18 (fun _=>true) rfl (Jw _) (Jv _) fun K' hK=>?_|refine Qm 18 (fun _=>true) rfl (Jw _) (Jv _) fun K' hK=>?_|refine Qc ?_|refine Qd ?_|refine Qa ?_|((first|refine Qg ⟨_,rfl,fun hc=>?_,fun hc=>?_⟩|refine Qs (fun hc=>?_) (fun hc=>?_)|refine Qt (fun hc=>?_) (fun hc=>?_))<;>first|(cases hc;done)|((try simp only [znz] at hc);first|exact znf|skip))|refine Qi ?_|refine Qf ?_|simp (maxSteps:=1000000) only [go_sem,abo,Xy,e2,hw,Yq]|(refine hK _ ?_;clear hK K')|apply And.intro|(apply aaA;(focus exact rfl);(focus first|exact (Q8 _ zsd));(focus exact rfl);(focus (first|(simp;done)|omega|(simp only [List.length_map];omega))))|(apply Ut;(focus exact rfl);(focus first|exact (Q6 _ _ _ zsd zsd));(focus exact rfl);(focus (first|(simp;done)|omega|(simp only [List.length_map];omega))))|((first|apply Qv|apply Jm);(focus first|exact (JM _ _ zsd).b|exact (QN _ _ _ _ zsd zsd zsd).b|exact (YC _ zsd zsd).b|exact (YB _).b|exact (YA _ _ _ zsd zsd).b|exact (JN _ _ zsd zsd zsd).b|exact (J0 _ _ _ zsd zsd zsd).b|exact (XE _ _ zsd zsd zsd zsd).b))|exact zlo|omega|exact zms)
      all_goals
        refine hL _ (out2,j + 1) (QO []) ⟨(by show j + 1≤R.length;omega),(by show out2 = (R.take (j + 1)).flatMap (akZ l ks);rw [hR1,← hout,hout2];rfl)⟩ (by show R.length - (j + 1) < R.length - j;omega) (JE [] (by simp only [go_sem,and_true,true_and,implies_true,Option.some.injEq,exists_eq_left',Qh,Qj,ao5];(repeat' (first|rfl|apply And.intro|omega|exact fun h=>h|exact Exists.intro _ rfl))) (by simp only [go_sem,and_true,true_and,implies_true,Option.some.injEq,exists_eq_left',Qh,Qj,ao5];(repeat' (first|rfl|apply And.intro|omega|exact fun h=>h|exact Exists.intro _ rfl))) (by simp [QO]) (by simp) (by omega))
    · obtain ⟨hk2,hget2,hr2⟩:=Yy hd2
      have hxz:=hk.2 x (List.mem_of_getElem? hget2)
      have hw2:=Jq (k:=m) (by have:=hk.1;omega)
      have e2:decide ((m:Int) < (ks.length:Int)) = true:=by simp;omega
      have vn:(ks.map JL.v)[m]? = some (.agg [V.str x.name,.sl 1 (x.lo.map V.int),.sl 1 (x.up.map V.int),.sl 2 (x.uses.map usV)]):=by rw [List.getElem?_map,hget2];rfl
      have hK1:=agE (f:=afd l i) hget2
      have hKn:=ahI (f:=afd l i) ks (m + 1)
      rw [hK1,List.length_append] at hKn
      have hol2:out2.length + (afd l i x).length≤12:=by
        have:(akZ l ks i).length = (ks.flatMap (afd l i)).length:=rfl
        rw [hout2,List.length_append];omega
      have gI:=(J0 x.lo x.up p.ver hxz.1 hxz.2.1 hpz.2.1).b
      simp only [ye] at gI
      have hnext:out++(ks.take (m + 1)).flatMap (afd l i) = out2++afd l i x:=by rw [hK1,← List.append_assoc,← hout2]
      have hL2':∀ (s':St) (τ:Nat→Nat),afe C.m τ s' (abo l ks R (out2++afd l i x) j i (m + 1))→K2 s':=fun s' τ hw=>hL2 s' (out2++afd l i x,m + 1) τ ⟨(by show m + 1≤ks.length;omega),hnext.symm⟩ (by show ks.length - (m + 1) < ks.length - m;omega) hw
      unfold afd aiC at hL2' hol2
      rw [v6 hp,agZ hp] at hL2' hol2
      rcases hnm:(x.name == p.name) with _|_
      · rw [hnm] at hL2' hol2
        simp only [Bool.false_and,Bool.false_eq_true,if_false,List.append_nil] at hL2'
        repeat' (first|refine Qb fun K' hK=>?_|refine Qe fun K' hK=>?_|refine Ql 18 (fun _=>true) rfl (Jw _) (Jv _) fun K' hK=>?_|refine Qm 18 (fun _=>true) rfl (Jw _) (Jv _) fun K' hK=>?_|refine Qc ?_|refine Qd ?_|refine Qa ?_|((first|refine Qg ⟨_,rfl,fun hc=>?_,fun hc=>?_⟩|refine Qs (fun hc=>?_) (fun hc=>?_)|refine Qt (fun hc=>?_) (fun hc=>?_))<;>first|(cases hc;done)|((try simp only [znz] at hc);first|exact znf|skip))|refine Qi ?_|refine Qf ?_|simp (maxSteps:=1000000) only [go_sem,abo,Xy,e2,hw2,Int.toNat_natCast,vn,vp,hnm,Yq]|(refine hK _ ?_;clear hK K')|apply And.intro|(apply aaA;(focus exact rfl);(focus first|exact (Q8 _ zsd));(focus exact rfl);(focus (first|(simp;done)|omega|(simp only [List.length_map];omega))))|(apply Ut;(focus exact rfl);(focus first|exact (Q6 _ _ _ zsd zsd));(focus exact rfl);(focus (first|(simp;done)|omega|(simp only [List.length_map];omega))))|((first|apply Qv|apply Jm);(focus first|exact gI|exact (JM _ _ zsd).b|exact (QN _ _ _ _ zsd zsd zsd).b|exact (YC _ zsd zsd).b|exact (YB _).b|exact (YA _ _ _ zsd zsd).b|exact (JN _ _ zsd zsd zsd).b|exact (J0 _ _ _ zsd zsd zsd).b|exact (XE _ _ zsd zsd zsd zsd).b))|exact zlo|omega|exact zms)
        all_goals first
          | exact hL2' _ (QO []) (JE [] (by simp only [go_sem,and_true,true_and,implies_true,Option.some.injEq,exists_eq_left',Qh,Qj,abo];(repeat' (first|rfl|apply And.intro|omega|exact fun h=>h|exact Exists.intro _ rfl))) (by simp only [go_sem,and_true,true_and,implies_true,Option.some.injEq,exists_eq_left',Qh,Qj,abo];(repeat' (first|rfl|apply And.intro|omega|exact fun h=>h|exact Exists.intro _ rfl))) (by simp [QO]) (by simp) (by omega))
      · rcases hin:inV x.lo x.up p.ver with _|_
        · rw [hin] at gI
          rw [hnm,hin] at hL2' hol2
          simp only [Bool.and_false,Bool.false_eq_true,if_false,List.append_nil] at hL2'
          repeat' (first|refine Qb fun K' hK=>?_|refine Qe fun K' hK=>?_|refine Ql 18 (fun _=>true) rfl (Jw _) (Jv _) fun K' hK=>?_|refine Qm 18 (fun _=>true) rfl (Jw _) (Jv _) fun K' hK=>?_|refine Qc ?_|refine Qd ?_|refine Qa ?_|((first|refine Qg ⟨_,rfl,fun hc=>?_,fun hc=>?_⟩|refine Qs (fun hc=>?_) (fun hc=>?_)|refine Qt (fun hc=>?_) (fun hc=>?_))<;>first|(cases hc;done)|((try simp only [znz] at hc);first|exact znf|skip))|refine Qi ?_|refine Qf ?_|simp (maxSteps:=1000000) only [go_sem,abo,Xy,e2,hw2,Int.toNat_natCast,vn,vp,hnm,Yq]|(refine hK _ ?_;clear hK K')|apply And.intro|(apply aaA;(focus exact rfl);(focus first|exact (Q8 _ zsd));(focus exact rfl);(focus (first|(simp;done)|omega|(simp only [List.length_map];omega))))|(apply Ut;(focus exact rfl);(focus first|exact (Q6 _ _ _ zsd zsd));(focus exact rfl);(focus (first|(simp;done)|omega|(simp only [List.length_map];omega))))|((first|apply Qv|apply Jm);(focus first|exact gI|exact (JM _ _ zsd).b|exact (QN _ _ _ _ zsd zsd zsd).b|exact (YC _ zsd zsd).b|exact (YB _).b|exact (YA _ _ _ zsd zsd).b|exact (JN _ _ zsd zsd zsd).b|exact (J0 _ _ _ zsd zsd zsd).b|exact (XE _ _ zsd zsd zsd zsd).b))|exact zlo|omega|exact zms)
          all_goals first
            | exact hL2' _ (QO []) (JE [] (by simp only [go_sem,and_true,true_and,implies_true,Option.some.injEq,exists_eq_left',Qh,Qj,abo];(repeat' (first|rfl|apply And.intro|omega|exact fun h=>h|exact Exists.intro _ rfl))) (by simp only [go_sem,and_true,true_and,implies_true,Option.some.injEq,exists_eq_left',Qh,Qj,abo];(repeat' (first|rfl|apply And.intro|omega|exact fun h=>h|exact Exists.intro _ rfl))) (by simp [QO]) (by simp) (by omega))
        · rw [hin] at gI
          rw [hnm,hin] at hL2' hol2
          simp only [Bool.and_true,if_true] at hL2' hol2
          have hul:=List.length_map usV (as:=x.uses)
          have hjn:out2.map usV++x.uses.map usV = (out2++x.uses).map usV:=(List.map_append ..).symm
          have hln:out2.length + x.uses.length = (out2++x.uses).length:=(List.length_append ..).symm
          have hyc:∀ y∈x.uses.map usV,y.cells.length = 2:=by
            intro y hy
            obtain ⟨u,_,rfl⟩:=List.mem_map.1 hy
            rfl
          repeat' (first|refine Qb fun K' hK=>?_|refine Qe fun K' hK=>?_|refine Ql 18 (fun _=>true) rfl (Jw _) (Jv _) fun K' hK=>?_|refine Qm 18 (fun _=>true) rfl (Jw _) (Jv _) fun K' hK=>?_|refine Qc ?_|refine Qd ?_|refine Qa ?_|((first|refine Qg ⟨_,rfl,fun hc=>?_,fun hc=>?_⟩|refine Qs (fun hc=>?_) (fun hc=>?_)|refine Qt (fun hc=>?_) (fun hc=>?_))<;>first|(cases hc;done)|((try simp only [znz] at hc);first|exact znf|skip))|refine Qi ?_|refine Qf ?_|simp (maxSteps:=1000000) only [go_sem,abo,Xy,e2,hw2,Int.toNat_natCast,vn,vp,hnm,hul,hln,VF,hjn,List.length_map,Yq]|(refine hK _ ?_;clear hK K')|apply And.intro|(apply aaA;(focus exact rfl);(focus first|exact (Q8 _ zsd));(focus exact rfl);(focus (first|(simp;done)|omega|(simp only [List.length_map];omega))))|(apply Ut;(focus exact rfl);(focus first|exact (Q6 _ _ _ zsd zsd));(focus exact rfl);(focus (first|(simp;done)|omega|(simp only [List.length_map];omega))))|((first|apply Qv|apply Jm);(focus first|exact gI|exact (JM _ _ zsd).b|exact (QN _ _ _ _ zsd zsd zsd).b|exact (YC _ zsd zsd).b|exact (YB _).b|exact (YA _ _ _ zsd zsd).b|exact (JN _ _ zsd zsd zsd).b|exact (J0 _ _ _ zsd zsd zsd).b|exact (XE _ _ zsd zsd zsd zsd).b))|exact zlo|omega|exact zms)
          all_goals first
            | exact hyc
            | exact hL2' _ (QO [(0,26001)]) (JE [(0,26001)] (by simp only [go_sem,and_true,true_and,implies_true,Option.some.injEq,exists_eq_left',Qh,Qj,abo];(repeat' (first|rfl|apply And.intro|omega|exact fun h=>h|exact Exists.intro _ rfl))) (by simp only [go_sem,and_true,true_and,implies_true,Option.some.injEq,exists_eq_left',Qh,Qj,abo];(repeat' (first|rfl|apply And.intro|omega|exact fun h=>h|exact Exists.intro _ rfl))) (by simp [QO]) (by simp;omega) (by omega))
end Av
end
section
set_option linter.unusedSimpArgs false
set_option linter.unusedVariables false
set_option maxRecDepth 10000
set_option maxHeartbeats 4000000
namespace Av
open Go
attribute [local irreducible] AWp WY Vp Vq awS awC V1 awQ Uh Q9 YQ VZ awR YT awB okR Ww ris
section
variable {α:Type}
def agW (f:α→Nat→V):Nat→List α→List V
  | _,[]=>[]
  | n,p :: r=>f p n :: agW f (n + 1) r
theorem q9 (f:α→Nat→V):∀ (ps:List α) (n:Nat),(agW f n ps).length = ps.length
  | [],_=>rfl
  | p :: r,n=>by simp only [agW,List.length_cons,q9 f r]
theorem vZ (f:α→Nat→V):∀ (ps:List α) (n j:Nat),(agW f n ps)[j]? = (ps[j]?).map fun p=>f p (n + j)
  | [],n,j=>by simp [agW]
  | p :: r,n,0=>by simp [agW]
  | p :: r,n,j + 1=>by
    simp only [agW,List.getElem?_cons_succ]
    rw [vZ f r (n + 1) j,show n + 1 + j = n + (j + 1) by omega]
theorem ajf (f:α→Nat→V):∀ (ps:List α) (n:Nat) (p:α),agW f n (ps++[p]) = agW f n ps++[f p (n + ps.length)]
  | [],n,p=>rfl
  | q :: r,n,p=>by
    simp only [List.cons_append,agW,ajf f r,List.length_cons]
    rw [show n + 1 + r.length = n + (r.length + 1) by omega]
theorem ad3 {f:α→Nat→V} (hf:∀ x a τ,(f x a).ren τ = f x (τ a)) {τ:Nat→Nat}:∀ (ps:List α) (n:Nat),(∀ i,i < ps.length→τ (n + i) = n + i)→qU τ (agW f n ps) = agW f n ps
  | [],_,_=>rfl
  | p :: r,n,h=>by
    have h0:=h 0 (by simp)
    simp only [agW,qU,hf]
    rw [ad3 hf r (n + 1) (fun i hi=>by rw [show n + 1 + i = n + (i + 1) by omega];exact h (i + 1) (by simp;omega))]
    rw [show τ n = n by simpa using h0]
theorem agq {f:α→Nat→V} (hf:∀ x a m,a < m→(f x a).lt m):∀ (ps:List α) (n m:Nat),n + ps.length≤m→ltL m (agW f n ps)
  | [],_,_,_=>trivial
  | p :: r,n,m,h=>by
    simp only [List.length_cons] at h
    exact ⟨hf _ _ _ (by omega),agq hf r (n + 1) m (by omega)⟩
theorem alr {f:α→Nat→V} (h1:∀ x a τ,(f x a).ren τ = f x (τ a)) (h2:∀ x a m,a < m→(f x a).lt m) {sz:Nat} {ps:List α} {τ:Nat→Nat} {N n:Nat} (ht:∀ i,i < ps.length→τ (N + i) = N + i) (hn:N + ps.length≤n) :
    (Ob.obuf true sz (agW f N ps)).weak τ n (.obuf true sz (agW f N ps)):=⟨id,rfl,(ad3 h1 ps N ht).symm,agq h2 ps N n hn⟩
theorem aeV {o:Nat→Option Ob} {br:List Nat} {B:Option (List Nat)}:∀ (xs ys:List V),xs.length = ys.length→(∀ (i:Nat) (x y:V),xs[i]? = some x→ys[i]? = some y→conv o br B x y)→X2 o br B xs ys
  | [],[],_,_=>trivial
  | [],_ :: _,h,_=>by simp at h
  | _ :: _,[],h,_=>by simp at h
  | x :: r,y :: r',h,hh=>⟨hh 0 x y rfl rfl,aeV r r' (by simpa using h) fun i x' y' h1 h2=>hh (i + 1) x' y' h1 h2⟩
end
theorem aja (τ:Nat→Nat):∀ xs ys:List V,qU τ (xs++ys) = qU τ xs++qU τ ys
  | [],ys=>rfl
  | x :: xs,ys=>by simp only [List.cons_append,qU,aja τ xs ys]
def JL.own (p:JL) (a:Nat):V:=.agg [V.str p.name,.sl 1 (p.lo.map V.int),.sl 1 (p.up.map V.int),.hd a 0 p.uses.length]
theorem ad5 (x:JL) (a:Nat) (τ:Nat→Nat):(x.own a).ren τ = x.own (τ a):=by simp only [JL.own,V.ren,qU]
theorem aiy (x:JL) (a m:Nat) (h:a < m):(x.own a).lt m:=⟨trivial,trivial,trivial,h,trivial⟩
abbrev akV:Nat→List JL→List V:=agW JL.own
def adj (ks:List JL):List Ob:=ks.map fun p=>.buf true 2 (p.uses.map usV)
theorem qX (ks:List JL):(adj ks).length = ks.length:=by simp [adj]
theorem abx {ks:List JL} {τ:Nat→Nat} {n:Nat} (ht:∀ i,i < ks.length→τ (100 + i) = 100 + i) (hn:100 + ks.length≤n):(Ob.obuf true 4 (akV 100 ks)).weak τ n (.obuf true 4 (akV 100 ks)):=alr ad5 aiy ht hn
def an5 (u:PU):Prop:=u.1.natAbs < 2 ^ 60∧u.2.natAbs < 2 ^ 60
def apk (n:Nat) (x:JL):Prop:=x.name.length≤5∧x.lo.length≤4∧x.up.length≤4∧x.uses.length≤n∧∀ u∈x.uses,an5 u
def yv (n:Nat) (ks:List JL):Prop:=ks.length≤4∧∀ x∈ks,apk n x
def af1 (ks:List JL):V:=.sl 4 (ks.map JL.v)
theorem agy (ks:List JL):(af1 ks).closed:=by simp only [af1,V.closed]
def aou (l:List Int) (ks:List JL) (k c:Nat):St:=KH [(0,.ptr 0 0),(3,.hd 1 0 ks.length),(4,V.int c)] [(0,.box true (J3 l k)),(1,.obuf true 4 (akV 100 ks))] 100 (adj ks) 200
def ap2 (l:List Int) (ks:List JL) (nm:List UInt8) (lo up:List Int) (us:List PU) (k c:Nat) (n:Int):St :=
  KH [(0,.ptr 0 0),(3,.hd 1 0 ks.length),(4,V.int c),(5,.ptr 2 0),(6,V.int n)] [(0,.box true (J3 l k)),(1,.obuf true 4 (akV 100 ks)),(2,.box true [V.str nm,.sl 1 (lo.map V.int),.sl 1 (up.map V.int),.hd 3 0 us.length]),(3,.buf true 2 (us.map usV))] 100 (adj ks) 200
def ahp (l:List Int) (ks:List JL) (k:Nat):St:=KH [(0,.ptr 0 0),(3,.hd 1 0 ks.length)] [(0,.box true (J3 l k)),(1,.obuf true 4 (akV 100 ks))] 100 (adj ks) 200
theorem acj {ks:List JL} {s:St} {tau:List (Nat×Nat)} {n:Nat} (h:∀ i,i < ks.length→s.o (QO tau (100 + i)) = (adj ks)[i]?) :
    ∀ i (hi:i < (adj ks).length),∃ x,s.o (QO tau (100 + i)) = some x∧x.weak (QO tau) n (adj ks)[i]:=by
  intro i hi
  have h1:=h i (by simpa [adj] using hi)
  rw [List.getElem?_eq_getElem hi] at h1
  refine ⟨_,h1,?_⟩
  simp only [adj,List.getElem_map]
  exact ⟨id,rfl,rfl⟩
theorem an7 {l:List Int} {k:Nat} (hk:k≤l.length):(an8 l k).2≤l.length:=by
  have h1:=Wu (l:=l) (k:=k) (n:=22) hk
  show (acu l _ _).2≤l.length
  unfold acu
  split
  · exact h1
  · exact ajj h1
theorem aih:∀ a∈([1,2,3,4,5,6,7,8,9,10,11,12,13,14,15,16,17,18,19,20,21,22]:List Int),∀ b∈(if x8 a = [] then [0] else x8 a),0≤b∧b≤16384:=by decide +kernel
theorem aii (l:List Int) (k:Nat) (a:Int) (ha:1≤a∧a≤22):0≤(acu l k a).1∧(acu l k a).1≤16384:=by
  refine aih a (by simp only [List.mem_cons,List.not_mem_nil,or_false];omega) _ ?_
  by_cases h:x8 a = []
  · rw [acu,if_pos h,if_pos h];simp
  · rw [acu,if_neg h,if_neg h]
    exact alG h (by unfold x8;(repeat' split)<;>simp)
theorem an6 (l:List Int) (k:Nat):an5 (an8 l k).1:=by
  have hr:=Xr (l:=l) (k:=k) (n:=22) (by omega) (by omega)
  have hs:=aii l (Yz l k 22).2 (1 + (Yz l k 22).1) (by omega)
  refine ⟨?_,?_⟩
  · show (1 + (Yz l k 22).1).natAbs < 2 ^ 60
    omega
  · show (acu l (Yz l k 22).2 (1 + (Yz l k 22).1)).1.natAbs < 2 ^ 60
    omega
theorem ajl:∀ (ks:List JL),ntL (ks.map JL.v)
  | []=>trivial
  | p :: r=>⟨by simp [JL.v],ajl r⟩
theorem adp:∀ (ks:List JL),Qn (ks.map JL.v)
  | []=>trivial
  | p :: r=>⟨aiz p,adp r⟩
theorem acE {o:Nat→Option Ob} {xs:List V} {ks:List JL} (h1:o 1 = some (.obuf true 4 xs)) (hl:xs.length = ks.length)
    (hx:∀ (i:Nat) (p:JL),ks[i]? = some p→∃ z a,xs[i]? = some (.agg [V.str p.name,z,.sl 1 (p.up.map V.int),.hd a 0 p.uses.length])∧conv o [0] none z (.sl 1 (p.lo.map V.int))∧a≠0∧o a = some (.buf true 2 (p.uses.map usV))) :
    conv o [0] none (.hd 1 0 ks.length) (af1 ks):=by
  rw [af1,akw]
  refine ⟨trivial,by simp,.inr ⟨true,xs,h1,?_,ajl ks,adp ks⟩⟩
  rw [List.drop_zero,List.take_of_length_le (by omega)]
  refine aeV _ _ (by rw [hl,List.length_map]) fun i x y h3 h4=>?_
  rw [List.getElem?_map] at h4
  simp only [Option.map_eq_some_iff] at h4
  obtain ⟨p,hp,rfl⟩:=h4
  obtain ⟨z,a,e1,e2,e3,e4⟩:=hx i p hp
  rw [e1] at h3;cases h3
  refine ⟨by simp [conv],e2,by simp [conv],?_,trivial⟩
  rw [akw]
  exact ⟨trivial,by simpa using e3,.inl ⟨true,_,e4,by rw [List.drop_zero,List.take_of_length_le (by simp)]⟩⟩
def jS (WC:Nat):List AO:=[fa 25 3 5,ld 26 1 25,mv 27 0,cl 28 WC [27],xo 29 (.bslice 1 2 true [(.int .i64 0),(.int .i64 0)] [(0,(.t 28))]),xo 30 (.append 2 16 [(.int .i64 0),(.int .i64 0)] (.t 26) (.t 29)),fa 31 3 5,xs 1 31 30]
def j2:List (List Nat):=[[],[0],[],[2],[3],[1,4,3],[0,1,2,3,4,5],[6,5,5,0,1,2,3,4,5]]
def jQ:OT:=.one 0 (.one 2 (.or 1 (.one 3 (.one 4 (.one 5 (.one 6 (.one 7 (.done)))))) (.or 3 (.one 1 (.one 4 (.one 5 (.one 6 (.one 7 (.done)))))) (.done))))
def Yr (WC:Nat):OP:=.one 0 false [] (fa 25 3 5) (.one 2 false [] (mv 27 0) (.or 1 true [] (ld 26 1 25) (.one 3 true [] (cl 28 WC [27]) (.one 4 false [3] (xo 29 (.bslice 1 2 true [(.int .i64 0),(.int .i64 0)] [(0,(.t 28))])) (.one 5 true [4,3] (xo 30 (.append 2 16 [(.int .i64 0),(.int .i64 0)] (.t 26) (.t 29))) (.one 6 false [] (fa 31 3 5) (.one 7 true [5,4,3] (xs 1 31 30) (.done)))))) (.or 3 true [] (cl 28 WC [27]) (.one 1 true [] (ld 26 1 25) (.one 4 false [3] (xo 29 (.bslice 1 2 true [(.int .i64 0),(.int .i64 0)] [(0,(.t 28))])) (.one 5 true [4,3] (xo 30 (.append 2 16 [(.int .i64 0),(.int .i64 0)] (.t 26) (.t 29))) (.one 6 false [] (fa 31 3 5) (.one 7 true [5,4,3] (xs 1 31 30) (.done)))))) (.done))))
theorem Ju (WC:Nat):okR (jS WC) j2 [1,3] jQ = true:=by kernel_rfl
theorem Jt (WC:Nat):Ww (ris (jS WC) j2 [1,3]) jQ = Yr WC:=by kernel_rfl def c_law12_knowns (Qr QP Jr WC JX:Nat):AC:=Qo [0] (.reg [xo 2 (.mknil 4)]) (Qo [0,3] (.reg [xo 3 (.mknil 4)]) (Qo [0,3] (Qo [0,3,4] (.reg [mv 7 0,xo 8 (.call Qr [(.t 7),(.c (V.int 5))]),mv 4 8]) (.block 0 (X1 [0,3,4] (Qo [0,3,4] (Qo [0,3,4,10] (.reg [mv 9 4,bc 10 .gtr 9 (V.int 0)]) (.cond (.t 10) (.skip) (.exit 0))) (Qo [0,3,4] (.block 1 (Qo [0,3,4,5] (.reg [mv 13 0,xo 14 (.bslice 4 1 false [(.string ⟨#[]⟩)] [(0,(.c (V.str [99,114,121,112,116]))),(1,(.c (V.str [115,115,108]))),(2,(.c (V.str [108,105,98]))),(3,(.c (V.str [97,112,112])))]),cl 15 QP [13,14],mv 16 0,cl 17 Jr [16],xo 18 (.build [(.string ⟨#[]⟩),(.slice none 0 0),(.slice none 0 0),(.slice none 0 0)] [(0,1,(.t 15)),(1,2,(.t 17))]),xo 5 (.alloc [.val (.string ⟨#[]⟩),.nil 1,.nil 1,.nil 2]),xs 4 5 18]) (Qo [0,3,4,5] (Qo [0,3,4,5,6] (.reg [mv 19 0,xo 20 (.call Qr [(.t 19),(.c (V.int 3))]),mv 6 20]) (.block 2 (X1 [0,3,4,5,6] (Qo [0,3,4,5,6] (Qo [0,3,4,5,6,22] (.reg [mv 21 6,bc 22 .gtr 21 (V.int 0)]) (.cond (.t 22) (.skip) (.exit 2))) (Qo [0,3,4,5,6] (.block 3 (ach [1,3] jQ (Yr WC) (jS WC) j2)) (.reg [mv 23 6,bc 24 .sub 23 (V.int 1),mv 6 24])))))) (.reg [mv 32 3,xo 33 (.load true 4 (.t 5)),xo 34 (.obslice 1 4 true [(.string ⟨#[]⟩),(.slice none 0 0),(.slice none 0 0),(.slice none 0 0)] [(0,(.t 33))]),xo 35 (.append 4 88 [(.string ⟨#[]⟩),(.slice none 0 0),(.slice none 0 0),(.slice none 0 0)] (.t 32) (.t 34)),mv 3 35])))) (.reg [mv 11 4,bc 12 .sub 11 (V.int 1),mv 4 12])))))) (Qo [0,3] (Qo [0,3,42] (.reg [mv 36 3,ln 37 36,bc 38 .gtr 37 (V.int 0),mv 39 38,mg 40 0 39 true,xg 41 (.call JX [(.t 40),(.c (V.int 8))]) 39 true,xo 42 (.pick (.t 39) (.t 41) (.c (V.bool false)))]) (.cond (.t 42) (.reg [mv 43 3,mv 44 3,xo 45 (.iaddr 4 (.t 44) (.c (V.int 0))),fa 46 3 45,ld 47 1 46,xo 48 (.build [(.int .i64 0),(.int .i64 0)] [(0,1,(.c (V.int 99)))]),xo 49 (.bslice 1 2 true [(.int .i64 0),(.int .i64 0)] [(0,(.t 48))]),xo 50 (.append 2 16 [(.int .i64 0),(.int .i64 0)] (.t 47) (.t 49)),xo 51 (.iaddr 4 (.t 43) (.c (V.int 0))),fa 52 3 51,xs 1 52 50]) (.skip))) (Qo [3] (Qo [3,59] (.reg [mv 53 3,ln 54 53,bc 55 .gtr 54 (V.int 0),mv 56 55,mg 57 0 56 true,xg 58 (.call JX [(.t 57),(.c (V.int 8))]) 56 true,xo 59 (.pick (.t 56) (.t 58) (.c (V.bool false)))]) (.cond (.t 59) (.reg [mv 60 3,mv 61 3,ln 62 61,bc 63 .sub 62 (V.int 1),xo 64 (.bslice 1 1 false [(.int .i64 0)] [(0,(.c (V.int (-3))))]),ia 65 4 60 63,fa 66 1 65,fa 67 0 66,xs 1 67 64]) (.skip))) (Qo [2] (.reg [mv 68 3,mv 2 68]) (.ret)))))) def r_law12_knowns:List X0:=[.tmp 2]
def yX (Γ:Env) (f:Nat):Prop:=∀ (l:List Int) (k:Nat) (hl:l.length≤400) (hk:k≤l.length),EvK Γ f [] (J3 l k) (ap6 (J3 l) l.length (yv 3) af1)
theorem aeP {Γ:Env} {f Qr QP Jr WC JX:Nat} (h:Has Γ.P f 69 (c_law12_knowns Qr QP Jr WC JX) r_law12_knowns) (Qk:Y3 Γ Qr) (Qp:VE Γ QP) (QF:jG Γ Jr) (YD:abg Γ WC) (Qq:VX Γ JX):yX Γ f:=by
  intro l k hl hk
  refine aiM h (by simp) (JP _ _) (fun r cs2 hq=>(by obtain ⟨gx,gk,_,hgP,rfl,rfl⟩:=hq;exact ⟨agy _,JP _ _⟩)) fun C hC hm=>?_
  subst hC
  unfold c_law12_knowns
  refine ah0 ?_
  refine Qb fun K' hK=>?_
  simp (maxSteps:=1000000) only [go_sem]
  refine hK _ ?_
  clear hK
  clear K'
  (try simp only [go_sem])
  refine Qb fun K' hK=>?_
  simp (maxSteps:=1000000) only [go_sem]
  refine hK _ ?_
  clear hK
  clear K'
  (try simp only [go_sem])
  refine ad7 (ι:=List JL×Nat) (fun q=>yv 2 q.1∧q.2≤l.length) (fun q=>ahp l q.1 q.2) (fun K' hK'=>?_) (fun q hq=>?_)
  · have n1:=Qk l k 5 hl hk
    have hk1:=Wu (l:=l) (k:=k) (n:=5) hk
    have hr1:=Xr (l:=l) (k:=k) (n:=5) (by omega) (by omega)
    generalize Yz l k 5 = w at *
    obtain ⟨c0,k1⟩:=w
    simp only [J3] at n1 hk1 hr1 ⊢
    obtain ⟨c0,rfl⟩:∃ j:Nat,c0 = (j:Int):=⟨c0.toNat,by omega⟩
    repeat' (first|refine Qb fun K' hK=>?_|refine Qe fun K' hK=>?_|refine Ql 8 (fun y=>!decide (y = 0) && !decide (y = 2) && !decide (y = 3)) rfl (Ju _) (Jt _) fun K' hK=>?_|refine Qm 8 (fun y=>!decide (y = 0) && !decide (y = 2) && !decide (y = 3)) rfl (Ju _) (Jt _) fun K' hK=>?_|refine Qc ?_|refine Qd ?_|refine Qa ?_|((first|refine Qg ⟨_,rfl,fun hc=>?_,fun hc=>?_⟩|refine Qs (fun hc=>?_) (fun hc=>?_)|refine Qt (fun hc=>?_) (fun hc=>?_))<;>first|(cases hc;done)|((try simp only [znz] at hc);first|exact znf|skip))|refine Qi ?_|refine Qf ?_|simp (maxSteps:=1000000) only [go_sem,J3,Yr]|(refine hK _ ?_;clear hK K')|apply And.intro|(apply XQ;(focus exact rfl);(focus first|exact n1|exact (Qk _ _ _ zsd zsd)|exact (Qp _ _ _ zsd zsd zsd zsd)|exact (QF _ _ zsd zsd)|exact (YD _ _ zsd zsd)|exact (Qq _ _ _ zsd zsd zsd zsd));(focus exact rfl);(focus exact rfl))|(apply WP;(focus exact rfl);(focus first|exact rfl|decide);(focus first|exact rfl|decide);(focus first|exact n1|exact (Qk _ _ _ zsd zsd)|exact (Qp _ _ _ zsd zsd zsd zsd)|exact (QF _ _ zsd zsd)|exact (YD _ _ zsd zsd)|exact (Qq _ _ _ zsd zsd zsd zsd));(focus exact rfl);(focus exact rfl);(focus first|exact rfl|decide))|exact zlo|omega|exact zms)
    refine JR (ι:=List JL×Nat×Nat) (fun q=>yv 2 q.1∧q.1.length + q.2.2≤4∧q.2.1≤l.length) (fun q=>aou l q.1 q.2.1 q.2.2) (fun q=>q.2.2) ([],k1,c0) ⟨⟨by simp,by simp⟩,by simp;omega,hk1⟩ (QO [(1,1001)])
      (U0 [(1,1001)] (by simp only [go_sem,and_true,true_and,implies_true,Option.some.injEq,exists_eq_left',Qh,Qj];(repeat' (first|rfl|apply And.intro|omega|exact fun h=>h|exact Exists.intro _ rfl))) (by simp only [go_sem,and_true,true_and,implies_true,Option.some.injEq,exists_eq_left',Qh,Qj];(repeat' (first|rfl|apply And.intro|omega|exact fun h=>h|exact Exists.intro _ rfl));all_goals first|exact trivial|(refine Ku _ _ ?_;simp only [V.closed])) (by simp [adj]) (by omega) (by simp [adj]) (fun a b _ _=>by simp only [QO];(repeat' split)<;>omega) (by simp;omega) (by omega)) fun q hq K2 hK2=>?_
    obtain ⟨ks,k2,c⟩:=q
    obtain ⟨hok,hlen,hk2⟩:=hq
    dsimp only at hok hlen hk2
    have hk4:=hok.1
    rcases c with _|c
    · repeat' (first|refine Qb fun K' hK=>?_|refine Qe fun K' hK=>?_|refine Ql 8 (fun y=>!decide (y = 0) && !decide (y = 2) && !decide (y = 3)) rfl (Ju _) (Jt _) fun K' hK=>?_|refine Qm 8 (fun y=>!decide (y = 0) && !decide (y = 2) && !decide (y = 3)) rfl (Ju _) (Jt _) fun K' hK=>?_|refine Qc ?_|refine Qd ?_|refine Qa ?_|((first|refine Qg ⟨_,rfl,fun hc=>?_,fun hc=>?_⟩|refine Qs (fun hc=>?_) (fun hc=>?_)|refine Qt (fun hc=>?_) (fun hc=>?_))<;>first|(cases hc;done)|((try simp only [znz] at hc);first|exact znf|skip))|refine Qi ?_|refine Qf ?_|simp (maxSteps:=1000000) only [go_sem,aou,KH,W5,Yr]|(refine hK _ ?_;clear hK K')|apply And.intro|(apply XQ;(focus exact rfl);(focus first|exact (Qk _ _ _ zsd zsd)|exact (Qp _ _ _ zsd zsd zsd zsd)|exact (QF _ _ zsd zsd)|exact (YD _ _ zsd zsd)|exact (Qq _ _ _ zsd zsd zsd zsd));(focus exact rfl);(focus exact rfl))|(apply WP;(focus exact rfl);(focus first|exact rfl|decide);(focus first|exact rfl|decide);(focus first|exact (Qk _ _ _ zsd zsd)|exact (Qp _ _ _ zsd zsd zsd zsd)|exact (QF _ _ zsd zsd)|exact (YD _ _ zsd zsd)|exact (Qq _ _ _ zsd zsd zsd zsd));(focus exact rfl);(focus exact rfl);(focus first|exact rfl|decide))|exact zlo|omega|exact zms)
      refine hK' _ (ks,k2) (QO []) ⟨hok,hk2⟩ (U0 [] (by simp only [go_sem,and_true,true_and,implies_true,Option.some.injEq,exists_eq_left',Qh,Qj];(repeat' (first|rfl|apply And.intro|omega|exact fun h=>h|exact Exists.intro _ rfl))) (fun p hp=>?_) (acj fun i _=>by simp only [QO,St.keep,Xl]) (by omega) (by rw [qX];show 100 + ks.length≤200;omega) (fun a b _ _ h=>h) (by simp) (by omega))
      simp only [List.mem_cons,List.not_mem_nil,or_false] at hp
      rcases hp with rfl|rfl
      · exact ⟨_,rfl,yA⟩
      · exact ⟨_,rfl,abx (fun _ _=>rfl) (by omega)⟩
    · have e1:decide (((c + 1:Nat):Int) > 0) = true:=decide_eq_true (by omega)
      have ew:IntKind.i64.wrap (((c + 1:Nat):Int) - 1) = (c:Int):=by rw [WW (by omega) (by omega)];omega
      have n2:=Qp l k2 [[99,114,121,112,116],[115,115,108],[108,105,98],[97,112,112]] hl hk2 (by simp) (by simp)
      have hk3:=agi (l:=l) (k:=k2) (xs:=[[99,114,121,112,116],[115,115,108],[108,105,98],[97,112,112]]) hk2
      have hwm:=aeb (l:=l) (k:=k2) (xs:=[[99,114,121,112,116],[115,115,108],[108,105,98],[97,112,112]]) (by simp) (by simp)
      have hwl:(aci l k2 [[99,114,121,112,116],[115,115,108],[108,105,98],[97,112,112]]).1.length≤5:=by
        simp only [List.mem_cons,List.not_mem_nil,or_false] at hwm
        rcases hwm with e|e|e|e<;>(rw [e];decide)
      generalize aci l k2 [[99,114,121,112,116],[115,115,108],[108,105,98],[97,112,112]] = u at *
      obtain ⟨nm,k3⟩:=u
      have n3:=QF l k3 hl hk3
      have hk5:=abK (l:=l) (abK (l:=l) hk3)
      have hb1:=abJ l k3
      have hb2:=abJ l (qS l k3).2
      simp only [agd,ye] at n3
      generalize (qS l (qS l k3).2) = w3 at *
      generalize (qS l k3) = w4 at *
      obtain ⟨up,k5⟩:=w3
      obtain ⟨lo,_⟩:=w4
      have n4:=Qk l k5 3 hl hk5
      have hk6:=Wu (l:=l) (k:=k5) (n:=3) hk5
      have hr6:=Xr (l:=l) (k:=k5) (n:=3) (by omega) (by omega)
      generalize Yz l k5 3 = w at *
      obtain ⟨d0,k6⟩:=w
      simp only [J3,List.map_cons,List.map_nil] at n2 n3 n4 hk3 hk5 hk6 hr6 hb1 hb2 hwl ⊢
      obtain ⟨d0,rfl⟩:∃ j:Nat,d0 = (j:Int):=⟨d0.toNat,by omega⟩
      repeat' (first|refine Qb fun K' hK=>?_|refine Qe fun K' hK=>?_|refine Ql 8 (fun y=>!decide (y = 0) && !decide (y = 2) && !decide (y = 3)) rfl (Ju _) (Jt _) fun K' hK=>?_|refine Qm 8 (fun y=>!decide (y = 0) && !decide (y = 2) && !decide (y = 3)) rfl (Ju _) (Jt _) fun K' hK=>?_|refine Qc ?_|refine Qd ?_|refine Qa ?_|((first|refine Qg ⟨_,rfl,fun hc=>?_,fun hc=>?_⟩|refine Qs (fun hc=>?_) (fun hc=>?_)|refine Qt (fun hc=>?_) (fun hc=>?_))<;>first|(cases hc;done)|((try simp only [znz] at hc);first|exact znf|skip))|refine Qi ?_|refine Qf ?_|simp (maxSteps:=1000000) only [go_sem,aou,KH,W5,e1,J3,Yr]|(refine hK _ ?_;clear hK K')|apply And.intro|(apply XQ;(focus exact rfl);(focus first|exact n2|exact n3|exact n4|exact (Qk _ _ _ zsd zsd)|exact (Qp _ _ _ zsd zsd zsd zsd)|exact (QF _ _ zsd zsd)|exact (YD _ _ zsd zsd)|exact (Qq _ _ _ zsd zsd zsd zsd));(focus exact rfl);(focus exact rfl))|(apply WP;(focus exact rfl);(focus first|exact rfl|decide);(focus first|exact rfl|decide);(focus first|exact n2|exact n3|exact n4|exact (Qk _ _ _ zsd zsd)|exact (Qp _ _ _ zsd zsd zsd zsd)|exact (QF _ _ zsd zsd)|exact (YD _ _ zsd zsd)|exact (Qq _ _ _ zsd zsd zsd zsd));(focus exact rfl);(focus exact rfl);(focus first|exact rfl|decide))|exact zlo|omega|exact zms)
      refine ah1 8200 3 2 rfl rfl ?_
      refine JR (ι:=List PU×Nat×Nat) (fun q=>(∀ x∈q.1,an5 x)∧q.1.length + q.2.2≤2∧q.2.1≤l.length) (fun q=>ap2 l ks nm lo up q.1 q.2.1 (c + 1) q.2.2) (fun q=>q.2.2) ([],k6,d0) ⟨by simp,by simp;omega,hk6⟩ (QO [(2,8200),(3,13200)])
        (U0 [(2,8200),(3,13200)] (fun p hp=>?_) (fun p hp=>?_) (acj fun j hj=>?_) (by omega) (by rw [qX];omega) (fun a b _ _=>by simp only [QO];(repeat' split)<;>omega) (by simp;omega) (by omega)) fun q hq K3 hK3=>?_
      · simp only [List.mem_cons,List.not_mem_nil,or_false] at hp
        rcases hp with rfl|rfl|rfl|rfl|rfl
        · exact ⟨rfl,by show 0 < 200;omega⟩
        · exact ⟨rfl,by show 1 < 200;omega⟩
        · exact ⟨rfl,trivial⟩
        · exact ⟨rfl,by show 2 < 200;omega⟩
        · exact ⟨rfl,trivial⟩
      · simp only [List.mem_cons,List.not_mem_nil,or_false] at hp
        rcases hp with rfl|rfl|rfl|rfl
        · exact ⟨_,rfl,yA⟩
        · exact ⟨_,rfl,abx (fun j hj=>by simp only [QO];rw [if_neg (by omega),if_neg (by omega)]) (by omega)⟩
        · exact ⟨_,rfl,id,rfl,trivial,Ku _ _ (by simp only [V.closed]),Ku _ _ (by simp only [V.closed]),(by show 3 < 200;omega),trivial⟩
        · exact ⟨_,rfl,id,rfl,rfl⟩
      · have e5:QO [(2,8200),(3,13200)] (100 + j) = 100 + j:=by simp only [QO];rw [if_neg (by omega),if_neg (by omega)]
        rw [e5]
        iterate 10 refine (JB _ _ (by first|omega|(show _≠13200;omega))).trans ?_
        refine (af4 (by simp;omega)).trans ?_
        refine (JB _ _ (by omega)).trans ?_
        exact Xl
      obtain ⟨us,k7,d⟩:=q
      obtain ⟨hus,hud,hk7⟩:=hq
      dsimp only at hus hud hk7
      rcases d with _|d
      · repeat' (first|refine Qb fun K' hK=>?_|refine Qe fun K' hK=>?_|refine Ql 8 (fun y=>!decide (y = 0) && !decide (y = 2) && !decide (y = 3)) rfl (Ju _) (Jt _) fun K' hK=>?_|refine Qm 8 (fun y=>!decide (y = 0) && !decide (y = 2) && !decide (y = 3)) rfl (Ju _) (Jt _) fun K' hK=>?_|refine Qc ?_|refine Qd ?_|refine Qa ?_|((first|refine Qg ⟨_,rfl,fun hc=>?_,fun hc=>?_⟩|refine Qs (fun hc=>?_) (fun hc=>?_)|refine Qt (fun hc=>?_) (fun hc=>?_))<;>first|(cases hc;done)|((try simp only [znz] at hc);first|exact znf|skip))|refine Qi ?_|refine Qf ?_|simp (maxSteps:=1000000) only [go_sem,ap2,KH,W5,ew,Yr]|(refine hK _ ?_;clear hK K')|apply And.intro|(apply XQ;(focus exact rfl);(focus first|exact (Qk _ _ _ zsd zsd)|exact (Qp _ _ _ zsd zsd zsd zsd)|exact (QF _ _ zsd zsd)|exact (YD _ _ zsd zsd)|exact (Qq _ _ _ zsd zsd zsd zsd));(focus exact rfl);(focus exact rfl))|(apply WP;(focus exact rfl);(focus first|exact rfl|decide);(focus first|exact rfl|decide);(focus first|exact (Qk _ _ _ zsd zsd)|exact (Qp _ _ _ zsd zsd zsd zsd)|exact (QF _ _ zsd zsd)|exact (YD _ _ zsd zsd)|exact (Qq _ _ _ zsd zsd zsd zsd));(focus exact rfl);(focus exact rfl);(focus first|exact rfl|decide))|exact zlo|omega|exact zms)
        have hp:apk 2 ⟨nm,lo,up,us⟩:=⟨hwl,hb1,hb2,(by show us.length≤2;omega),hus⟩
        have tz:∀ a,a≠1→a≠100 + ks.length→a≠3→QO [(1,5200),(100 + ks.length,3),(3,9999)] a = a:=fun a h1 h2 h3=>by
          simp only [QO];rw [if_neg (by omega),if_neg (by omega),if_neg (by omega)]
        have tn:QO [(1,5200),(100 + ks.length,3),(3,9999)] (100 + ks.length) = 3:=by
          simp only [QO];rw [if_neg (by omega)];simp
        refine hK2 _ (ks++[⟨nm,lo,up,us⟩],k7,c) (QO [(1,5200),(100 + ks.length,3),(3,9999)]) ⟨⟨(by simp;omega),fun p hpm=>(by
            rcases List.mem_append.1 hpm with h1|h1
            · exact hok.2 p h1
            · rw [List.mem_singleton.1 h1];exact hp)⟩,(by simp;omega),hk7⟩ (by show c < c + 1;omega)
          (U0 [(1,5200),(100 + ks.length,3),(3,9999)] (fun p hpm=>?_) (fun p hpm=>?_) (acj fun j hj=>?_) (by omega) (by rw [qX];simp;omega) (fun a b _ _=>by simp only [QO];(repeat' split)<;>omega) (by simp;omega) (by omega))
        · simp only [List.mem_cons,List.not_mem_nil,or_false] at hpm
          rcases hpm with rfl|rfl|rfl
          · refine ⟨?_,?_⟩
            · show V.ptr 0 0 = V.ptr (QO _ 0) 0;rw [tz 0 (by omega) (by omega) (by omega)]
            · show 0 < 200;omega
          · refine ⟨?_,?_⟩
            · show V.hd 5200 0 (ks.length + 1) = V.hd 5200 0 (ks++[_]).length;simp
            · show 1 < 200;omega
          · exact ⟨rfl,trivial⟩
        · simp only [List.mem_cons,List.not_mem_nil,or_false] at hpm
          rcases hpm with rfl|rfl
          · refine ⟨_,?_,yA (l:=l) (k:=k7)⟩
            simp only [tz 0 (by omega) (by omega) (by omega)];rfl
          · refine ⟨_,rfl,id,rfl,?_,agq aiy _ _ _ (by simp;omega)⟩
            rw [akV,ajf,List.take_of_length_le (by rw [q9];omega),aja]
            rw [ad3 ad5 ks 100 (fun j hj=>tz (100 + j) (by omega) (by omega) (by omega))]
            simp only [qU,JL.own,V.ren,tn]
        · by_cases hj2:j = ks.length
          · subst hj2
            rw [tn]
            have e6:(adj (ks++[⟨nm,lo,up,us⟩]))[ks.length]? = some (.buf true 2 (us.map usV)):=by simp [adj]
            rw [e6];rfl
          · have hj3:j < ks.length:=by simp at hj;omega
            rw [tz (100 + j) (by omega) (by omega) (by omega)]
            iterate 3 refine (JB _ _ (by omega)).trans ?_
            refine Xl.trans ?_
            simp only [adj,List.map_append]
            rw [List.getElem?_append_left (by simpa using hj3)]
      · have e2:decide (((d + 1:Nat):Int) > 0) = true:=decide_eq_true (by omega)
        have ew2:IntKind.i64.wrap (((d + 1:Nat):Int) - 1) = (d:Int):=by rw [WW (by omega) (by omega)];omega
        have n5:=YD l k7 hl hk7
        have hk8:=an7 (l:=l) hk7
        have hok8:=an6 l k7
        generalize an8 l k7 = w at *
        obtain ⟨u8,k8⟩:=w
        simp only [J3] at n5 hk8 hok8 ⊢
        have hbk:List.take us.length (us.map usV)++[V.agg [V.int u8.1,V.int u8.2]] = (us++[u8]).map usV:=by
          rw [List.take_of_length_le (by simp),List.map_append];rfl
        repeat' (first|refine Qb fun K' hK=>?_|refine Qe fun K' hK=>?_|refine Ql 8 (fun y=>!decide (y = 0) && !decide (y = 2) && !decide (y = 3)) rfl (Ju _) (Jt _) fun K' hK=>?_|refine Qm 8 (fun y=>!decide (y = 0) && !decide (y = 2) && !decide (y = 3)) rfl (Ju _) (Jt _) fun K' hK=>?_|refine Qc ?_|refine Qd ?_|refine Qa ?_|((first|refine Qg ⟨_,rfl,fun hc=>?_,fun hc=>?_⟩|refine Qs (fun hc=>?_) (fun hc=>?_)|refine Qt (fun hc=>?_) (fun hc=>?_))<;>first|(cases hc;done)|((try simp only [znz] at hc);first|exact znf|skip))|refine Qi ?_|refine Qf ?_|simp (maxSteps:=1000000) only [go_sem,ap2,KH,W5,e2,ew2,J3,Yr]|(refine hK _ ?_;clear hK K')|apply And.intro|(apply XQ;(focus exact rfl);(focus first|exact n5|exact (Qk _ _ _ zsd zsd)|exact (Qp _ _ _ zsd zsd zsd zsd)|exact (QF _ _ zsd zsd)|exact (YD _ _ zsd zsd)|exact (Qq _ _ _ zsd zsd zsd zsd));(focus exact rfl);(focus exact rfl))|(apply WP;(focus exact rfl);(focus first|exact rfl|decide);(focus first|exact rfl|decide);(focus first|exact n5|exact (Qk _ _ _ zsd zsd)|exact (Qp _ _ _ zsd zsd zsd zsd)|exact (QF _ _ zsd zsd)|exact (YD _ _ zsd zsd)|exact (Qq _ _ _ zsd zsd zsd zsd));(focus exact rfl);(focus exact rfl);(focus first|exact rfl|decide))|exact zlo|omega|exact zms)
        all_goals
          refine hK3 _ (us++[u8],k8,d) (QO [(3,7200)]) ⟨fun x hxm=>(by
              rcases List.mem_append.1 hxm with h1|h1
              · exact hus x h1
              · rw [List.mem_singleton.1 h1];exact hok8),(by simp;omega),hk8⟩ (by show d < d + 1;omega)
            (U0 [(3,7200)] (fun p hp=>?_) (fun p hp=>?_) (acj fun j hj=>?_) (by omega) (by rw [qX];omega) (fun a b _ _=>by simp only [QO];(repeat' split)<;>omega) (by simp;omega) (by omega))
          · simp only [List.mem_cons,List.not_mem_nil,or_false] at hp
            rcases hp with rfl|rfl|rfl|rfl|rfl
            · exact ⟨rfl,by show 0 < 200;omega⟩
            · exact ⟨rfl,by show 1 < 200;omega⟩
            · exact ⟨rfl,trivial⟩
            · exact ⟨rfl,by show 2 < 200;omega⟩
            · exact ⟨rfl,trivial⟩
          · simp only [List.mem_cons,List.not_mem_nil,or_false] at hp
            rcases hp with rfl|rfl|rfl|rfl
            · exact ⟨_,rfl,yA⟩
            · exact ⟨_,rfl,abx (fun j hj=>by simp only [QO];rw [if_neg (by omega)]) (by omega)⟩
            · exact ⟨_,rfl,id,(by show [_,_,_,V.hd 7200 0 (us.length + 1)] = [_,_,_,V.hd 7200 0 (us++[_]).length];rw [List.length_append];rfl),trivial,Ku _ _ (by simp only [V.closed]),Ku _ _ (by simp only [V.closed]),(by show 3 < 200;omega),trivial⟩
            · exact ⟨_,rfl,id,rfl,hbk⟩
          · have e5:QO [(3,7200)] (100 + j) = 100 + j:=by simp only [QO];rw [if_neg (by omega)]
            rw [e5]
            iterate 5 refine (JB _ _ (by omega)).trans ?_
            exact Xl
  · refine ad7 (ι:=List JL×Nat) (fun q=>yv 3 q.1∧q.2≤l.length) (fun q=>ahp l q.1 q.2) (fun K' hK'=>?_) (fun q hq=>?_)
    · obtain ⟨ks,k1⟩:=q
      obtain ⟨hok,hk1⟩:=hq
      dsimp only at hok hk1
      have hk4:=hok.1
      have hok3:yv 3 ks:=⟨hok.1,fun x hx=>(let ⟨a,b,c,d,e⟩:=hok.2 x hx;⟨a,b,c,by omega,e⟩)⟩
      have fin0:∀ (t0:Nat→V) (k' n:Nat),k'≤l.length→t0 0 = .ptr 0 0→t0 3 = .hd 1 0 ks.length→∀ o:Nat→Option Ob,o 0 = some (.box true (J3 l k'))→o 1 = some (.obuf true 4 (akV 100 ks))→(∀ i,i < ks.length→o (100 + i) = (adj ks)[i]?)→K' { t:=t0,o:=o,n:=n }:=fun t0 k' n hk' ht0 ht3 o ho0 ho1 hoi=>by
        refine hK' _ (ks,k') (QO []) ⟨hok3,hk'⟩ (U0 [] (fun p hp=>?_) (fun p hp=>?_) (acj fun i hi=>hoi i hi) (by omega) (by rw [qX];show 100 + ks.length≤200;omega) (fun a b _ _ h=>h) (by simp) (by omega))
        · simp only [List.mem_cons,List.not_mem_nil,or_false] at hp
          rcases hp with rfl|rfl
          · exact ⟨(by simpa [St.keep,yu,V.ren,QO] using ht0),by show 0 < 200;omega⟩
          · exact ⟨(by simpa [St.keep,yu,V.ren,QO] using ht3),by show 1 < 200;omega⟩
        · simp only [List.mem_cons,List.not_mem_nil,or_false] at hp
          rcases hp with rfl|rfl
          · exact ⟨_,ho0,yA⟩
          · exact ⟨_,ho1,abx (fun _ _=>rfl) (by omega)⟩
      by_cases h0:ks.length = 0
      · have e1:decide ((ks.length:Int) > 0) = false:=by simp;exact List.length_eq_zero_iff.1 h0
        repeat' (first|refine Qb fun K' hK=>?_|refine Qe fun K' hK=>?_|refine Ql 8 (fun y=>!decide (y = 0) && !decide (y = 2) && !decide (y = 3)) rfl (Ju _) (Jt _) fun K' hK=>?_|refine Qm 8 (fun y=>!decide (y = 0) && !decide (y = 2) && !decide (y = 3)) rfl (Ju _) (Jt _) fun K' hK=>?_|refine Qc ?_|refine Qd ?_|refine Qa ?_|((first|refine Qg ⟨_,rfl,fun hc=>?_,fun hc=>?_⟩|refine Qs (fun hc=>?_) (fun hc=>?_)|refine Qt (fun hc=>?_) (fun hc=>?_))<;>first|(cases hc;done)|((try simp only [znz] at hc);first|exact znf|skip))|refine Qi ?_|refine Qf ?_|simp (maxSteps:=1000000) only [go_sem,ahp,KH,W5,e1,Yr]|(refine hK _ ?_;clear hK K')|apply And.intro|(apply XQ;(focus exact rfl);(focus first|exact (Qk _ _ _ zsd zsd)|exact (Qp _ _ _ zsd zsd zsd zsd)|exact (QF _ _ zsd zsd)|exact (YD _ _ zsd zsd)|exact (Qq _ _ _ zsd zsd zsd zsd));(focus exact rfl);(focus exact rfl))|(apply WP;(focus exact rfl);(focus first|exact rfl|decide);(focus first|exact rfl|decide);(focus first|exact (Qk _ _ _ zsd zsd)|exact (Qp _ _ _ zsd zsd zsd zsd)|exact (QF _ _ zsd zsd)|exact (YD _ _ zsd zsd)|exact (Qq _ _ _ zsd zsd zsd zsd));(focus exact rfl);(focus exact rfl);(focus first|exact rfl|decide))|exact zlo|omega|exact zms)
        all_goals
          refine fin0 _ k1 _ hk1 ?_ ?_ _ ?_ ?_ (fun i hi=>?_)
          · rfl
          · rfl
          · rfl
          · rfl
          · exact Xl
      · have e1:decide ((ks.length:Int) > 0) = true:=decide_eq_true (by omega)
        have n1:=Qq l k1 8 hl hk1 (by omega) (by omega)
        have hk2:=Wu (l:=l) (k:=k1) (n:=8) hk1
        generalize Yz l k1 8 = w at *
        obtain ⟨x,k2⟩:=w
        simp only [J3] at n1 hk2 ⊢
        cases hx:(x == 8 - 1)
        · rw [hx] at n1
          repeat' (first|refine Qb fun K' hK=>?_|refine Qe fun K' hK=>?_|refine Ql 8 (fun y=>!decide (y = 0) && !decide (y = 2) && !decide (y = 3)) rfl (Ju _) (Jt _) fun K' hK=>?_|refine Qm 8 (fun y=>!decide (y = 0) && !decide (y = 2) && !decide (y = 3)) rfl (Ju _) (Jt _) fun K' hK=>?_|refine Qc ?_|refine Qd ?_|refine Qa ?_|((first|refine Qg ⟨_,rfl,fun hc=>?_,fun hc=>?_⟩|refine Qs (fun hc=>?_) (fun hc=>?_)|refine Qt (fun hc=>?_) (fun hc=>?_))<;>first|(cases hc;done)|((try simp only [znz] at hc);first|exact znf|skip))|refine Qi ?_|refine Qf ?_|simp (maxSteps:=1000000) only [go_sem,ahp,KH,W5,e1,J3,Yr]|(refine hK _ ?_;clear hK K')|apply And.intro|(apply XQ;(focus exact rfl);(focus first|exact n1|exact (Qk _ _ _ zsd zsd)|exact (Qp _ _ _ zsd zsd zsd zsd)|exact (QF _ _ zsd zsd)|exact (YD _ _ zsd zsd)|exact (Qq _ _ _ zsd zsd zsd zsd));(focus exact rfl);(focus exact rfl))|(apply WP;(focus exact rfl);(focus first|exact rfl|decide);(focus first|exact rfl|decide);(focus first|exact n1|exact (Qk _ _ _ zsd zsd)|exact (Qp _ _ _ zsd zsd zsd zsd)|exact (QF _ _ zsd zsd)|exact (YD _ _ zsd zsd)|exact (Qq _ _ _ zsd zsd zsd zsd));(focus exact rfl);(focus exact rfl);(focus first|exact rfl|decide))|exact zlo|omega|exact zms)
          all_goals
            refine fin0 _ k2 _ hk2 ?_ ?_ _ ?_ ?_ (fun i hi=>?_)
            · rfl
            · rfl
            · rfl
            · rfl
            · exact (JB _ _ (by omega)).trans Xl
        · rw [hx] at n1
          obtain ⟨x0,hx0⟩:∃ x0,ks[0]? = some x0:=⟨ks[0]'(by omega),List.getElem?_eq_getElem (by omega)⟩
          have hxo:=hok.2 x0 (List.mem_of_getElem? hx0)
          have hxu:x0.uses.length≤2:=hxo.2.2.2.1
          have he:(akV 100 ks)[0]? = some (.agg [V.str x0.name,.sl 1 (x0.lo.map V.int),.sl 1 (x0.up.map V.int),.hd (100 + 0) 0 x0.uses.length]):=by rw [vZ,hx0];rfl
          have hu0:alh [(0,Ob.box true [V.sl 1 (l.map V.int),V.int k1]),(1,Ob.obuf true 4 (akV 100 ks))] 100 (adj ks) (100 + 0) = some (.buf true 2 (x0.uses.map usV)):=by rw [Xl,adj,List.getElem?_map,hx0];rfl
          simp only [Nat.add_zero] at he hu0
          repeat' (first|refine Qb fun K' hK=>?_|refine Qe fun K' hK=>?_|refine Ql 8 (fun y=>!decide (y = 0) && !decide (y = 2) && !decide (y = 3)) rfl (Ju _) (Jt _) fun K' hK=>?_|refine Qm 8 (fun y=>!decide (y = 0) && !decide (y = 2) && !decide (y = 3)) rfl (Ju _) (Jt _) fun K' hK=>?_|refine Qc ?_|refine Qd ?_|refine Qa ?_|((first|refine Qg ⟨_,rfl,fun hc=>?_,fun hc=>?_⟩|refine Qs (fun hc=>?_) (fun hc=>?_)|refine Qt (fun hc=>?_) (fun hc=>?_))<;>first|(cases hc;done)|((try simp only [znz] at hc);first|exact znf|skip))|refine Qi ?_|refine Qf ?_|simp (maxSteps:=1000000) only [go_sem,ahp,KH,W5,e1,J3,he,hu0,Yr]|(refine hK _ ?_;clear hK K')|apply And.intro|(apply XQ;(focus exact rfl);(focus first|exact n1|exact (Qk _ _ _ zsd zsd)|exact (Qp _ _ _ zsd zsd zsd zsd)|exact (QF _ _ zsd zsd)|exact (YD _ _ zsd zsd)|exact (Qq _ _ _ zsd zsd zsd zsd));(focus exact rfl);(focus exact rfl))|(apply WP;(focus exact rfl);(focus first|exact rfl|decide);(focus first|exact rfl|decide);(focus first|exact n1|exact (Qk _ _ _ zsd zsd)|exact (Qp _ _ _ zsd zsd zsd zsd)|exact (QF _ _ zsd zsd)|exact (YD _ _ zsd zsd)|exact (Qq _ _ _ zsd zsd zsd zsd));(focus exact rfl);(focus exact rfl);(focus first|exact rfl|decide))|exact zlo|omega|exact zms)
          all_goals
            have ht:∀ a,a≠100→QO [(100,14200)] a = a:=fun a h1=>by simp only [QO];rw [if_neg (by omega)]
            have ht0:QO [(100,14200)] 100 = 14200:=by simp [QO]
            refine hK' _ (ks.set 0 ⟨x0.name,x0.lo,x0.up,x0.uses++[(99,0)]⟩,k2) (QO [(100,14200)]) ⟨⟨by simpa using hok.1,fun x hx=>?_⟩,hk2⟩
              (U0 [(100,14200)] (fun p hp=>?_) (fun p hp=>?_) (acj fun j hj=>?_) (by omega) (by rw [qX,List.length_set];omega) (fun a b _ _=>by simp only [QO];(repeat' split)<;>omega) (by simp;omega) (by omega))
            · rcases List.mem_or_eq_of_mem_set hx with h2|h2
              · exact hok3.2 x h2
              · rw [h2]
                refine ⟨hxo.1,hxo.2.1,hxo.2.2.1,(by show (x0.uses++[_]).length≤3;simp;omega),fun u hu=>?_⟩
                rcases List.mem_append.1 hu with h3|h3
                · exact hxo.2.2.2.2 u h3
                · rw [List.mem_singleton.1 h3];exact ⟨by decide,by decide⟩
            · simp only [List.mem_cons,List.not_mem_nil,or_false] at hp
              rcases hp with rfl|rfl
              · refine ⟨?_,(by show 0 < 200;omega)⟩
                show V.ptr 0 0 = V.ptr (QO _ 0) 0;rw [ht 0 (by omega)]
              · refine ⟨?_,(by show 1 < 200;omega)⟩
                show V.hd 1 0 ks.length = V.hd (QO _ 1) 0 (ks.set 0 _).length;rw [ht 1 (by omega),List.length_set]
            · simp only [List.mem_cons,List.not_mem_nil,or_false] at hp
              rcases hp with rfl|rfl
              · refine ⟨_,?_,yA (l:=l) (k:=k2)⟩
                simp only [ht 0 (by omega)];rfl
              · refine ⟨.obuf true 4 ((akV 100 ks).set 0 (.agg [V.str x0.name,.sl 1 (x0.lo.map V.int),.sl 1 (x0.up.map V.int),.hd 14200 0 (x0.uses.length + 1)])),(by simp only [ht 1 (by omega)];rfl),id,rfl,?_,agq aiy _ _ _ (by rw [List.length_set];omega)⟩
                rcases ks with _|⟨y,r⟩
                · exact absurd rfl h0
                · simp only [List.getElem?_cons_zero,Option.some.injEq] at hx0
                  subst hx0
                  simp only [akV,agW,List.set_cons_zero,qU,ad5,ht0]
                  rw [ad3 ad5 r (100 + 1) (fun i hi=>ht _ (by omega))]
                  simp only [JL.own,List.length_append,List.length_singleton]
            · rw [List.length_set] at hj
              rcases Nat.eq_zero_or_pos j with rfl|hj0
              · rw [Nat.add_zero,ht0]
                have e6:(adj (ks.set 0 ⟨x0.name,x0.lo,x0.up,x0.uses++[(99,0)]⟩))[0]? = some (.buf true 2 ((x0.uses++[((99,0):PU)]).map usV)):=by
                  rw [adj,List.getElem?_map,List.getElem?_set,if_pos rfl,if_pos hj];rfl
                rw [e6,List.map_append]
                simp only [St.keep]
                rw [JB _ _ (show (14200:Nat)≠1 by omega),QZ,List.take_of_length_le (by simp)];rfl
              · rw [ht (100 + j) (by omega)]
                iterate 5 refine (JB _ _ (by omega)).trans ?_
                refine Xl.trans ?_
                rw [adj,adj,List.getElem?_map,List.getElem?_map,List.getElem?_set,if_neg (by omega)]
    · obtain ⟨ks,k1⟩:=q
      obtain ⟨hok,hk1⟩:=hq
      dsimp only at hok hk1
      have hk4:=hok.1
      by_cases h0:ks.length = 0
      · have e1:decide ((ks.length:Int) > 0) = false:=by simp;exact List.length_eq_zero_iff.1 h0
        repeat' (first|refine Qb fun K' hK=>?_|refine Qe fun K' hK=>?_|refine Ql 8 (fun y=>!decide (y = 0) && !decide (y = 2) && !decide (y = 3)) rfl (Ju _) (Jt _) fun K' hK=>?_|refine Qm 8 (fun y=>!decide (y = 0) && !decide (y = 2) && !decide (y = 3)) rfl (Ju _) (Jt _) fun K' hK=>?_|refine Qc ?_|refine Qd ?_|refine Qa ?_|((first|refine Qg ⟨_,rfl,fun hc=>?_,fun hc=>?_⟩|refine Qs (fun hc=>?_) (fun hc=>?_)|refine Qt (fun hc=>?_) (fun hc=>?_))<;>first|(cases hc;done)|((try simp only [znz] at hc);first|exact znf|skip))|refine Qi ?_|refine Qf ?_|simp (maxSteps:=1000000) only [go_sem,ahp,KH,W5,e1,Yr]|(refine hK _ ?_;clear hK K')|apply And.intro|(apply XQ;(focus exact rfl);(focus first|exact (Qk _ _ _ zsd zsd)|exact (Qp _ _ _ zsd zsd zsd zsd)|exact (QF _ _ zsd zsd)|exact (YD _ _ zsd zsd)|exact (Qq _ _ _ zsd zsd zsd zsd));(focus exact rfl);(focus exact rfl))|(apply WP;(focus exact rfl);(focus first|exact rfl|decide);(focus first|exact rfl|decide);(focus first|exact (Qk _ _ _ zsd zsd)|exact (Qp _ _ _ zsd zsd zsd zsd)|exact (QF _ _ zsd zsd)|exact (YD _ _ zsd zsd)|exact (Qq _ _ _ zsd zsd zsd zsd));(focus exact rfl);(focus exact rfl);(focus first|exact rfl|decide))|exact zlo|omega|exact zms)
        all_goals
          refine ⟨_,Le.refl _,aiN ks k1 _ rfl rfl hk1 hok (JP _ _) (acE rfl (q9 _ _ _) fun i p hp=>?_)⟩
          exact ⟨.sl 1 (p.lo.map V.int),100 + i,by rw [vZ,hp];rfl,by simp [conv],by omega,Xl.trans (by rw [adj,List.getElem?_map,hp];rfl)⟩
      · have e1:decide ((ks.length:Int) > 0) = true:=decide_eq_true (by omega)
        have ew:IntKind.i64.wrap ((ks.length:Int) - 1) = ((ks.length - 1:Nat):Int):=by rw [WW (by omega) (by omega)];omega
        have n1:=Qq l k1 8 hl hk1 (by omega) (by omega)
        have hk2:=Wu (l:=l) (k:=k1) (n:=8) hk1
        generalize Yz l k1 8 = w at *
        obtain ⟨x,k2⟩:=w
        simp only [J3] at n1 hk2 ⊢
        cases hx:(x == 8 - 1)
        · rw [hx] at n1
          repeat' (first|refine Qb fun K' hK=>?_|refine Qe fun K' hK=>?_|refine Ql 8 (fun y=>!decide (y = 0) && !decide (y = 2) && !decide (y = 3)) rfl (Ju _) (Jt _) fun K' hK=>?_|refine Qm 8 (fun y=>!decide (y = 0) && !decide (y = 2) && !decide (y = 3)) rfl (Ju _) (Jt _) fun K' hK=>?_|refine Qc ?_|refine Qd ?_|refine Qa ?_|((first|refine Qg ⟨_,rfl,fun hc=>?_,fun hc=>?_⟩|refine Qs (fun hc=>?_) (fun hc=>?_)|refine Qt (fun hc=>?_) (fun hc=>?_))<;>first|(cases hc;done)|((try simp only [znz] at hc);first|exact znf|skip))|refine Qi ?_|refine Qf ?_|simp (maxSteps:=1000000) only [go_sem,ahp,KH,W5,e1,J3,Yr]|(refine hK _ ?_;clear hK K')|apply And.intro|(apply XQ;(focus exact rfl);(focus first|exact n1|exact (Qk _ _ _ zsd zsd)|exact (Qp _ _ _ zsd zsd zsd zsd)|exact (QF _ _ zsd zsd)|exact (YD _ _ zsd zsd)|exact (Qq _ _ _ zsd zsd zsd zsd));(focus exact rfl);(focus exact rfl))|(apply WP;(focus exact rfl);(focus first|exact rfl|decide);(focus first|exact rfl|decide);(focus first|exact n1|exact (Qk _ _ _ zsd zsd)|exact (Qp _ _ _ zsd zsd zsd zsd)|exact (QF _ _ zsd zsd)|exact (YD _ _ zsd zsd)|exact (Qq _ _ _ zsd zsd zsd zsd));(focus exact rfl);(focus exact rfl);(focus first|exact rfl|decide))|exact zlo|omega|exact zms)
          all_goals
            refine ⟨_,Le.refl _,aiN ks k2 _ rfl rfl hk2 hok (JP _ _) (acE rfl (q9 _ _ _) fun i p hp=>?_)⟩
            exact ⟨.sl 1 (p.lo.map V.int),100 + i,by rw [vZ,hp];rfl,by simp [conv],by omega,(JB _ _ (by omega)).trans (Xl.trans (by rw [adj,List.getElem?_map,hp];rfl))⟩
        · rw [hx] at n1
          obtain ⟨x0,hx0⟩:∃ x0,ks[ks.length - 1]? = some x0:=⟨ks[ks.length - 1]'(by omega),List.getElem?_eq_getElem (by omega)⟩
          have hxo:=hok.2 x0 (List.mem_of_getElem? hx0)
          have he:(akV 100 ks)[ks.length - 1]? = some (.agg [V.str x0.name,.sl 1 (x0.lo.map V.int),.sl 1 (x0.up.map V.int),.hd (100 + (ks.length - 1)) 0 x0.uses.length]):=by rw [vZ,hx0];rfl
          repeat' (first|refine Qb fun K' hK=>?_|refine Qe fun K' hK=>?_|refine Ql 8 (fun y=>!decide (y = 0) && !decide (y = 2) && !decide (y = 3)) rfl (Ju _) (Jt _) fun K' hK=>?_|refine Qm 8 (fun y=>!decide (y = 0) && !decide (y = 2) && !decide (y = 3)) rfl (Ju _) (Jt _) fun K' hK=>?_|refine Qc ?_|refine Qd ?_|refine Qa ?_|((first|refine Qg ⟨_,rfl,fun hc=>?_,fun hc=>?_⟩|refine Qs (fun hc=>?_) (fun hc=>?_)|refine Qt (fun hc=>?_) (fun hc=>?_))<;>first|(cases hc;done)|((try simp only [znz] at hc);first|exact znf|skip))|refine Qi ?_|refine Qf ?_|simp (maxSteps:=1000000) only [go_sem,ahp,KH,W5,e1,ew,Int.toNat_natCast,J3,he,Yr]|(refine hK _ ?_;clear hK K')|apply And.intro|(apply XQ;(focus exact rfl);(focus first|exact n1|exact (Qk _ _ _ zsd zsd)|exact (Qp _ _ _ zsd zsd zsd zsd)|exact (QF _ _ zsd zsd)|exact (YD _ _ zsd zsd)|exact (Qq _ _ _ zsd zsd zsd zsd));(focus exact rfl);(focus exact rfl))|(apply WP;(focus exact rfl);(focus first|exact rfl|decide);(focus first|exact rfl|decide);(focus first|exact n1|exact (Qk _ _ _ zsd zsd)|exact (Qp _ _ _ zsd zsd zsd zsd)|exact (QF _ _ zsd zsd)|exact (YD _ _ zsd zsd)|exact (Qq _ _ _ zsd zsd zsd zsd));(focus exact rfl);(focus exact rfl);(focus first|exact rfl|decide))|exact zlo|omega|exact zms)
          all_goals
            have hkn:yv 3 (ks.set (ks.length - 1) ⟨x0.name,[-3],x0.up,x0.uses⟩):=⟨by rw [List.length_set];exact hok.1,fun y hy=>by
              rcases List.mem_or_eq_of_mem_set hy with h2|h2
              · exact hok.2 y h2
              · rw [h2];exact ⟨hxo.1,by simp,hxo.2.2.1,hxo.2.2.2⟩⟩
            have hconv:=fun (o:Nat→Option Ob) xs h1 h2 h3=>acE (o:=o) (xs:=xs) (ks:=ks.set (ks.length - 1) ⟨x0.name,[-3],x0.up,x0.uses⟩) h1 h2 h3
            rw [List.length_set] at hconv
            refine ⟨_,Le.refl _,aiN (ks.set (ks.length - 1) ⟨x0.name,[-3],x0.up,x0.uses⟩) k2 _ rfl rfl hk2 hkn (JP _ _) (hconv _ _ rfl (by rw [List.length_set,q9]) fun i p hp=>?_)⟩
            rw [List.getElem?_set] at hp
            split at hp
            · rename_i e
              subst e
              rw [if_pos (by omega)] at hp
              cases hp
              refine ⟨.hd 11200 0 1,100 + (ks.length - 1),by rw [List.getElem?_set,if_pos rfl,if_pos (by rw [q9];omega)],?_,by omega,?_⟩
              · rw [akw]
                exact ⟨trivial,by simp,.inl ⟨true,_,rfl,rfl⟩⟩
              · iterate 3 refine (JB _ _ (by omega)).trans ?_
                exact Xl.trans (by rw [adj,List.getElem?_map,hx0];rfl)
            · rename_i e
              have hi4:=(List.getElem?_eq_some_iff.1 hp).1
              refine ⟨.sl 1 (p.lo.map V.int),100 + i,by rw [List.getElem?_set,if_neg e,vZ,hp];rfl,by simp [conv],by omega,?_⟩
              iterate 3 refine (JB _ _ (by omega)).trans ?_
              exact Xl.trans (by rw [adj,List.getElem?_map,hp];rfl)
end Av
end
section
set_option linter.unusedSimpArgs false
set_option linter.unusedVariables false
set_option maxRecDepth 10000
set_option maxHeartbeats 4000000
namespace Av
open Go
attribute [local irreducible] AWp WY Vp Vq awS awC V1 awQ Uh Q9 YQ VZ awR YT awB okR Ww ris
def afR (ps:List Qu):V:=.sl 3 (ps.map Qu.v)
theorem ago (ps:List Qu):(afR ps).closed:=by simp only [afR,V.closed]
theorem apZ {Γ:Env} {f:FuncId} {l:List Int} {k:Nat} (h:EvP Γ f [.ptr 0 0] [.box true (J3 l k)] (alW l)):EvK Γ f [] (J3 l k) (ap6 (J3 l) l.length aay afR):=by
  refine ⟨h.shut ?_,JP _ _,fun r cs2 ⟨ps,k',_,_,h1,h2⟩=>by subst h1;subst h2;exact ⟨ago _,JP _ _⟩⟩
  rintro _ _ ⟨ps,k',hok,hk',rfl,rfl⟩
  refine ⟨afR ps,[.box true (J3 l k')],[0],none,⟨J3 l k',rfl,ps,k',hk',hok,rfl,rfl⟩,?_,⟨⟨_,rfl,fun h=>h,YP _ _ _ _ (JP _ _)⟩,trivial⟩,by simp,rfl⟩
  rw [afR,akw]
  refine ⟨trivial,by simp,.inr ⟨true,abw 2 ps,rfl,?_,ajk ps,ab1 ps⟩⟩
  rw [List.drop_zero,List.take_of_length_le (by rw [V7];omega)]
  refine aeV _ _ (by rw [V7,List.length_map]) fun i x y h3 h4=>?_
  rw [List.getElem?_map] at h4
  rw [wc] at h3
  simp only [Option.map_eq_some_iff] at h3 h4
  obtain ⟨p,hp,rfl⟩:=h3
  obtain ⟨q,hq,rfl⟩:=h4
  rw [hp] at hq;cases hq
  refine ⟨by simp [conv],by simp [conv],?_,trivial⟩
  rw [akw]
  refine ⟨trivial,by simp,.inl ⟨true,p.needs.map JS.v,?_,by rw [List.drop_zero,List.take_of_length_le (by simp)]⟩⟩
  rw [show 2 + i = i + 1 + 1 by omega,List.getElem?_cons_succ,List.getElem?_cons_succ,Km,List.getElem?_map,hp];rfl
theorem xk {l:List Qu} (h:Y8 l = 0):YZ l = false:=(akI h).2
theorem aeh:∀ (l:List Qu),YZ l = false→l.Pairwise fun a b=>Op.bytesLess a.name b.name = true
  | [],_=>.nil
  | a :: l,h=>.cons (ag4 l a h) (aeh l (aig h))
theorem acs {l:List Qu} (h:YZ l = false) {i j:Nat} {p q:Qu} (hp:l[i]? = some p) (hq:l[j]? = some q) (e:p.name = q.name):i = j:=by
  have h1:=List.pairwise_iff_getElem.1 (aeh l h)
  obtain ⟨hi,rfl⟩:=List.getElem?_eq_some_iff.1 hp
  obtain ⟨hj,rfl⟩:=List.getElem?_eq_some_iff.1 hq
  rcases Nat.lt_trichotomy i j with h2|h2|h2
  · have:=h1 i j hi hj h2
    rw [e,agu] at this;cases this
  · exact h2
  · have:=h1 j i hj hi h2
    rw [e,agu] at this;cases this
theorem amg (x y:PU) (h:eqU x y = true):x = y:=by
  unfold eqU at h
  simp only [Bool.and_eq_true,beq_iff_eq] at h
  exact Prod.ext h.1 h.2
theorem ak5 {l:List Qu} {ks:List JL} {a:Nat} {u:PU}:u∈ag0 l ks a↔u∈adW l ks a:=by
  rw [ag0,ama amg,abM]
theorem anT {α β:Type} (f g:α→List β):∀ R:List α,(R.flatMap fun i=>f i++g i).length = (R.flatMap f).length + (R.flatMap g).length
  | []=>rfl
  | x :: r=>by simp only [List.flatMap_cons,List.length_append,anT f g r];omega
theorem ahU {l:List Qu} {x:JL}:∀ R:List Int,R.Pairwise (fun i j=>agX l i≠agX l j)→(R.flatMap fun i=>afd l i x).length≤x.uses.length
  | [],_=>by simp
  | i :: r,h=>by
    obtain ⟨h1,h2⟩:=List.pairwise_cons.1 h
    have ih:=ahU (x:=x) r h2
    simp only [List.flatMap_cons,List.length_append]
    by_cases hf:aiC l i x = true
    · have hz:(r.flatMap fun i=>afd l i x) = []:=by
        rw [List.flatMap_eq_nil_iff]
        intro j hj
        have hn:x.name = agX l i:=by unfold aiC at hf;simp only [Bool.and_eq_true,beq_iff_eq] at hf;exact hf.1
        have:aiC l j x = false:=by
          unfold aiC
          rw [beq_eq_false_iff_ne.2 (by rw [hn];exact h1 j hj)];rfl
        unfold afd;rw [this];rfl
      rw [hz];unfold afd;rw [if_pos hf];simp
    · have:afd l i x = []:=by unfold afd;rw [if_neg hf]
      rw [this];simpa using ih
theorem amn {l:List Qu} {R:List Int} (hR:R.Pairwise (fun i j=>agX l i≠agX l j)):∀ ks:List JL,(R.flatMap (akZ l ks)).length≤(ks.map fun x=>x.uses.length).sum
  | []=>by
    have:R.flatMap (akZ l []) = []:=by rw [List.flatMap_eq_nil_iff];intro i _;rfl
    rw [this];simp
  | x :: ks=>by
    have e:akZ l (x :: ks) = fun i=>afd l i x++akZ l ks i:=by funext i;rfl
    rw [e,anT]
    have:=ahU (x:=x) R hR
    have:=amn hR ks
    simp only [List.map_cons,List.sum_cons];omega
theorem anH {n:Nat}:∀ ks:List JL,(∀ x∈ks,x.uses.length≤n)→(ks.map fun x=>x.uses.length).sum≤n * ks.length
  | [],_=>by simp
  | x :: r,h=>by
    have h1:=h x (by simp)
    have h2:=anH r fun y hy=>h y (by simp [hy])
    simp only [List.map_cons,List.sum_cons,List.length_cons,Nat.mul_succ];omega
theorem ahd {l:List Qu} (h:Y8 l = 0) (a:Nat):(yd l a).Pairwise (fun i j=>agX l i≠agX l j):=by
  refine List.Pairwise.imp_of_mem ?_ abv
  intro i j hi hj hij e
  obtain ⟨i,rfl,h1,_⟩:=ym.1 hi
  obtain ⟨j,rfl,h2,_⟩:=ym.1 hj
  rw [v6 (List.getElem?_eq_getElem h1),v6 (List.getElem?_eq_getElem h2)] at e
  have:=acs (xk h) (List.getElem?_eq_getElem h1) (List.getElem?_eq_getElem h2) e
  omega
theorem agb {l:List Qu} {ks:List JL} (hk:yv 3 ks) (a:Nat) (h:Y8 l = 0):(adW l ks a).length≤12:=by
  have h1:=amn (ahd h a) ks
  have h2:=anH (n:=3) ks fun x hx=>(hk.2 x hx).2.2.2.1
  have h3:=hk.1
  unfold adW;omega
theorem anc {ks:List JL} (hk:yv 3 ks):KSz ks:=⟨by have:=hk.1;omega,fun x hx=>by
  obtain ⟨_,h2,h3,h4,h5⟩:=hk.2 x hx
  exact ⟨by omega,by omega,by omega,h5⟩⟩
end Av
end
section
set_option linter.unusedSimpArgs false
set_option linter.unusedVariables false
set_option maxRecDepth 10000
set_option maxHeartbeats 4000000
namespace Av
open Go
attribute [local irreducible] AWp WY Vp Vq awS awC V1 awQ Uh Q9 YQ VZ awR YT awB okR Ww ris
theorem ajv {α:Type} (eq:α→α→Bool):∀ (r:List α) (x:α),(vk eq x r).length≤r.length
  | [],_=>by simp [vk]
  | y :: r,x=>by
    have ih:=ajv eq r y
    rw [vk]
    split
    · simp only [List.length_cons];omega
    · simp only [List.length_cons];omega
theorem anj {α:Type} (eq:α→α→Bool) (l:List α):(aap eq l).length≤l.length:=by
  cases l with
  | nil=>simp [aap]
  | cons x r=>have:=ajv eq r x;simp only [aap,List.length_cons];omega
theorem aj5 {ps:List Qu} {i:Nat}:(adl ps i).length≤ps.length:=by rw [adl,List.length_map];exact acx
end Av
end
