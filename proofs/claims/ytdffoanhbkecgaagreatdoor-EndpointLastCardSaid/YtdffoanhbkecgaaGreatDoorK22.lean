/- K22 -/
import Derived.Test.YtdffoanhbkecgaaGreatDoorK16
import Derived.Test.YtdffoanhbkecgaaGreatDoorK21
set_option linter.unusedVariables false
set_option linter.unusedSimpArgs false
section
set_option linter.unusedSimpArgs false
set_option linter.unusedVariables false
set_option maxRecDepth 10000
set_option maxHeartbeats 4000000
namespace Av
open Go
attribute [local irreducible] AWp V7 Kz KE awS awC jS awQ jY JB Wl jJ awR Ws awB okR Vo ris
structure NR (a:List Int):Prop where
  nd:a.Nodup
  rg:∀ x∈a,1≤x∧x≤16
theorem NR.add {a:List Int} (h:NR a) (l:List Int) (k:Nat):NR (if a.contains (1 + (vl l k 16).1) = true then a else a++[1 + (vl l k 16).1]):=by
  have hr:=agU (l:=l) (k:=k) (n:=16) (by omega) (by omega)
  split
  · exact h
  · rename_i hc
    have hx:1 + (vl l k 16).1 ∉ a:=by simpa using hc
    refine ⟨List.nodup_append.2 ⟨h.nd,by simp,fun x hx2 y hy e=>?_⟩,fun x hx2=>?_⟩
    · simp at hy;subst hy;subst e;exact hx hx2
    · rcases List.mem_append.1 hx2 with h1|h1
      · exact h.rg x h1
      · simp at h1;omega
end Av
end
section
set_option linter.unusedSimpArgs false
set_option linter.unusedVariables false
set_option maxRecDepth 10000
set_option maxHeartbeats 4000000
namespace Av
open Go
attribute [local irreducible] AWp V7 Kz KE awS awC jS awQ jY JB Wl jJ awR Ws awB okR Vo ris
def qH (Xf QL:Nat):AC:=QF [0] (.reg [mc 2 (V.bool false)]) (QF [] (QF [0,7,8,9] (.reg [mv 7 0,ln 8 7,mc 9 (V.int 0)]) (.block 0 (Wv [0,7,8,9] (QF [0,7,8,9,10] (.reg [bn 10 .lss 9 8]) (QF [0,7,8,9] (.cond (.t 10) (.skip) (.exit 0)) (QF [0,7,8,9] (.block 1 (QF [0,3,4,7,8,9] (.reg [mv 11 9,ia 12 1 7 9,ld 13 1 12,mv 3 11,mv 4 13]) (QF [0,3,4,6,7,8,9] (.reg [mv 15 4,cl 16 Xf [15],mv 14 16,ex 17 14 0,ex 18 14 1,xo 5 (.alloc [.val (.int .i64 0),.val (.string ⟨#[]⟩),.val (.int .i64 0),.val (.int .i64 0),.val (.int .i64 0),.val (.int .i64 0),.val (.int .i64 0),.val (.int .i64 0),.val (.int .i64 0),.val (.int .i64 0),.val (.int .i64 0),.val (.int .i64 0)]),xs 12 5 17,mv 6 18]) (QF [0,7,8,9,27] (.reg [mv 19 6,bc 20 .neq 19 (V.int 0),mv 21 20,mg 22 0 21 false,mg 23 3 21 false,xg 24 (.slsl 1 (.t 22) none (some (.t 23))) 21 false,mg 25 4 21 false,xg 26 (.call QL [(.t 24),(.t 25)]) 21 false,xo 27 (.pick (.t 21) (.c (V.bool true)) (.t 26))]) (.cond (.t 27) (QF [2] (.reg [mc 2 (V.bool false)]) (.ret)) (.skip)))))) (.reg [bc 28 .add 9 (V.int 1),mv 9 28]))))))) (QF [2] (.reg [mc 2 (V.bool true)]) (.ret))) def r_endpoint_suites:List Y9:=[.tmp 2]
def qi (Γ:Env) (f:Nat):Prop:=∀ (l:List Int) (hl:l.length < 2 ^ 30) (hnd:l.Nodup) (hrg:∀ x∈l,1≤x∧x≤16),EvN Γ f [.sl 1 (l.map V.int)] (V.bool true)
theorem abl {Γ:Env} {f Xf QL:Nat} (h:Has Γ.P f 29 (qH Xf QL) r_endpoint_suites) (Ww:Kg Γ Xf) (QC:JY Γ QL):qi Γ f:=by
  intro l hl hnd hrg
  refine Jb h (by simp) (by simp only [V.closed,Qw,V.noSl,JL,and_self,and_true,true_and]) (by simp only [V.closed,Qw,V.noSl,JL,and_self,and_true,true_and]) fun C hC hm=>?_
  subst hC
  unfold qH
  repeat' (first|refine Qp fun K' hK=>?_|refine Qt fun K' hK=>?_|refine Qq ?_|refine Qr ?_|refine Qa ?_|((first|refine Qs ⟨_,rfl,fun hc=>?_,fun hc=>?_⟩|refine QM (fun hc=>?_) (fun hc=>?_)|refine QN (fun hc=>?_) (fun hc=>?_))<;>first|(cases hc;done)|((try simp only [znz] at hc);first|exact znf|skip))|refine Qv ?_|refine Qu ?_|simp (maxSteps:=1000000) only [go_sem]|(refine hK _ ?_;clear hK K')|apply And.intro|(apply QX;(focus first|exact (Ww _).b|exact (QC _ _ zsd).b))|exact zlo|omega|exact zms)
  refine Wz (ι:=Nat) (fun k=>k≤l.length) (fun k=>[(9,V.int k)]) (fun k=>l.length - k) 0 (by omega) (Nat.zero_le _) (by repeat' first|exact VK|refine Kn (by omega) (by simp only [Ob.lt,ltL,V.lt,and_self,and_true];try omega) ?_) (fun i hi=>by simp only [ovT,YO,Nat.reduceEqDiff,reduceIte];(repeat' first|exact Km|refine VJ ?_ ?_|simp only [V.lt,ltL,and_self,and_true]|omega)) (by simp only [Nat.reduceAdd,ovT,YO,Nat.reduceEqDiff,reduceIte,J9,Yz,w7,u32,u33,u34,u35,u36,u37,u38,u39,and_self,and_true,true_and];first|done|rfl) fun k hk K' hL=>?_
  simp only [ovT,YO,Nat.reduceEqDiff,reduceIte]
  rcases hd:l.drop k with _|⟨x,r⟩
  · have hkl:=YX hd
    have e1:decide ((k:Int) < (((l.map V.int).length:Nat):Int)) = false:=by simp;omega
    repeat' (first|refine Qp fun K' hK=>?_|refine Qt fun K' hK=>?_|refine Qq ?_|refine Qr ?_|refine Qa ?_|((first|refine Qs ⟨_,rfl,fun hc=>?_,fun hc=>?_⟩|refine QM (fun hc=>?_) (fun hc=>?_)|refine QN (fun hc=>?_) (fun hc=>?_))<;>first|(cases hc;done)|((try simp only [znz] at hc);first|exact znf|skip))|refine Qv ?_|refine Qu ?_|simp (maxSteps:=1000000) only [go_sem,e1]|(refine hK _ ?_;clear hK K')|apply And.intro|(apply QX;(focus first|exact (Ww _).b|exact (QC _ _ zsd).b))|exact zlo|omega|exact zms)
    all_goals first|(refine Je _ rfl ?_;simp only [go_sem];done)
  · obtain ⟨hk',hget,hr⟩:=Yp hd
    have hw:=JO (k:=k) (by omega)
    have e1:decide ((k:Int) < (((l.map V.int).length:Nat):Int)) = true:=by simp;omega
    have hsv:UK x = .tup [(UO x).v,V.int 0]:=by rw [UK,if_pos (hrg x (List.mem_of_getElem? hget))]
    have hsu:=(Ww x).b
    rw [hsv] at hsu
    simp only [Q9.v,Q9.cells] at hsu
    have hA:List.take (k - 0) (l.map V.int) = (l.take k).map V.int:=by rw [Nat.sub_zero,List.map_take]
    have hc1:=(QC (l.take k) x (by rw [List.length_take];omega)).b
    have hf:=xJ x (l.take k) 0
    rw [decide_eq_false (fun h=>af0 hnd hget (hf.1 h))] at hc1
    repeat' (first|refine Qp fun K' hK=>?_|refine Qt fun K' hK=>?_|refine Qq ?_|refine Qr ?_|refine Qa ?_|((first|refine Qs ⟨_,rfl,fun hc=>?_,fun hc=>?_⟩|refine QM (fun hc=>?_) (fun hc=>?_)|refine QN (fun hc=>?_) (fun hc=>?_))<;>first|(cases hc;done)|((try simp only [znz] at hc);first|exact znf|skip))|refine Qv ?_|refine Qu ?_|simp (maxSteps:=1000000) only [go_sem,e1,hw,Int.toNat_natCast,List.getElem?_map,hget,hA]|(refine hK _ ?_;clear hK K')|apply And.intro|(apply QX;(focus first|exact hc1|exact hsu|exact (Ww _).b|exact (QC _ _ zsd).b))|exact zlo|omega|exact zms)
    all_goals first|exact hL _ (k + 1) (by simp only [Nat.reduceAdd,ovT,YO,Nat.reduceEqDiff,reduceIte,J9,Yz,w7,u32,u33,u34,u35,u36,u37,u38,u39,and_self,and_true,true_and]) (by omega) (by omega) (fun a ha=>by simp only [u32,u33,u34,u35,u36,u37,u38,u39];repeat rw [if_neg (by omega)])
def UP:List AO:=[mv 9 3,bc 10 .gtr 9 (V.int 0),mv 11 10,mg 12 0 11 true,mg 13 3 11 true,xg 14 (.bin .sub (.t 13) (.c (V.int 1))) 11 true,xg 15 (.iaddr 1 (.t 12) (.t 14)) 11 true,xg 16 (.load false 1 (.t 15)) 11 true,mg 17 0 11 true,mg 18 3 11 true,xg 19 (.iaddr 1 (.t 17) (.t 18)) 11 true,xg 20 (.load false 1 (.t 19)) 11 true,xg 21 (.bin .geq (.t 16) (.t 20)) 11 true,xo 22 (.pick (.t 11) (.t 21) (.c (V.bool false)))]
def UU:List (List Nat):=[[],[0],[1],[2],[2],[4,2],[3,5,2],[6,2],[2],[2],[8,9,2],[10,2],[7,11,2],[2,12]]
def UN:OT:=.one 0 (.one 1 (.one 2 (.one 3 (.one 4 (.one 5 (.one 6 (.one 7 (.one 8 (.one 9 (.one 10 (.one 11 (.one 12 (.one 13 (.done))))))))))))))
def Vk:OP:=.one 0 false [] (mv 9 3) (.one 1 false [] (bc 10 .gtr 9 (V.int 0)) (.one 2 false [] (mv 11 10) (.one 3 false [] (mg 12 0 11 true) (.one 4 false [] (mg 13 3 11 true) (.one 5 false [] (xg 14 (.bin .sub (.t 13) (.c (V.int 1))) 11 true) (.one 6 false [] (xg 15 (.iaddr 1 (.t 12) (.t 14)) 11 true) (.one 7 false [] (xg 16 (.load false 1 (.t 15)) 11 true) (.one 8 false [] (mg 17 0 11 true) (.one 9 false [] (mg 18 3 11 true) (.one 10 false [] (xg 19 (.iaddr 1 (.t 17) (.t 18)) 11 true) (.one 11 false [] (xg 20 (.load false 1 (.t 19)) 11 true) (.one 12 false [] (xg 21 (.bin .geq (.t 16) (.t 20)) 11 true) (.one 13 false [] (xo 22 (.pick (.t 11) (.t 21) (.c (V.bool false)))) (.done))))))))))))))
theorem Vl:okR (UP) UU [] UN = true:=by kernel_rfl
theorem Vj:Vo (ris (UP) UU []) UN = Vk:=by kernel_rfl def c_endpoint_ascends:AC:=QF [0] (.reg [mc 2 (V.bool false)]) (QF [] (QF [0,5,6] (.reg [mv 4 0,ln 5 4,mc 6 (V.int 0)]) (.block 0 (Wv [0,5,6] (QF [0,5,6,7] (.reg [bn 7 .lss 6 5]) (QF [0,5,6] (.cond (.t 7) (.skip) (.exit 0)) (QF [0,5,6] (.block 1 (QF [0,3,5,6] (.reg [mv 8 6,mv 3 8]) (QF [0,5,6,22] (aaY [] UN (Vk) (UP) UU) (.cond (.t 22) (QF [2] (.reg [mc 2 (V.bool false)]) (.ret)) (.skip))))) (.reg [bc 23 .add 6 (V.int 1),mv 6 23]))))))) (QF [2] (.reg [mc 2 (V.bool true)]) (.ret))) def r_endpoint_ascends:List Y9:=[.tmp 2]
def Kx (Γ:Env) (f:Nat):Prop:=EvN Γ f [.sc (.slice none 0 0)] (V.bool true)
theorem aaI {Γ:Env} {f:Nat} (h:Has Γ.P f 24 c_endpoint_ascends r_endpoint_ascends) :Kx Γ f:=by
  refine Jb h (by simp) (by simp only [V.closed,Qw,V.noSl,JL,and_self,and_true,true_and]) (by simp only [V.closed,Qw,V.noSl,JL,and_self,and_true,true_and]) fun C hC hm=>?_
  subst hC
  unfold c_endpoint_ascends
  repeat' (first|refine Qp fun K' hK=>?_|refine Qt fun K' hK=>?_|refine Qm 14 (fun _=>true) rfl (Vl) (Vj) fun K' hK=>?_|refine Qn 14 (fun _=>true) rfl (Vl) (Vj) fun K' hK=>?_|refine Qq ?_|refine Qr ?_|refine Qa ?_|((first|refine Qs ⟨_,rfl,fun hc=>?_,fun hc=>?_⟩|refine QM (fun hc=>?_) (fun hc=>?_)|refine QN (fun hc=>?_) (fun hc=>?_))<;>first|(cases hc;done)|((try simp only [znz] at hc);first|exact znf|skip))|refine Qv ?_|refine Qu ?_|simp (maxSteps:=1000000) only [go_sem,Vk]|(refine hK _ ?_;clear hK K')|apply And.intro|exact zlo|omega|exact zms)
  refine JF (ι:=Unit) (fun _=>True) (fun _=>Ym [(0,nS),(5,V.int 0),(6,V.int 0)] [] 0) (fun _=>0) () trivial (Jp []) (Jq [] (by simp only [go_sem,and_true,true_and,implies_true,Option.some.injEq,exists_eq_left',Ql,Qo];(repeat' (first|rfl|apply And.intro|omega|exact fun h=>h|exact Exists.intro _ rfl))) (by simp only [go_sem,and_true,true_and,implies_true,Option.some.injEq,exists_eq_left',Ql,Qo];(repeat' (first|rfl|apply And.intro|omega|exact fun h=>h|exact Exists.intro _ rfl))) (by simp) (by simp) (by omega)) fun k hk K' hL=>?_
  repeat' (first|refine Qp fun K' hK=>?_|refine Qt fun K' hK=>?_|refine Qm 14 (fun _=>true) rfl (Vl) (Vj) fun K' hK=>?_|refine Qn 14 (fun _=>true) rfl (Vl) (Vj) fun K' hK=>?_|refine Qq ?_|refine Qr ?_|refine Qa ?_|((first|refine Qs ⟨_,rfl,fun hc=>?_,fun hc=>?_⟩|refine QM (fun hc=>?_) (fun hc=>?_)|refine QN (fun hc=>?_) (fun hc=>?_))<;>first|(cases hc;done)|((try simp only [znz] at hc);first|exact znf|skip))|refine Qv ?_|refine Qu ?_|simp (maxSteps:=1000000) only [go_sem,Ym,Vk]|(refine hK _ ?_;clear hK K')|apply And.intro|exact zlo|omega|exact zms)
  all_goals first|(refine Je _ rfl ?_;simp only [go_sem];done)
def K1 (Vm:Nat):AC:=QF [1] (.reg [xo 1 (.box false 1 (.t 0)),mc 2 (.sc .nilFunc)]) (QF [2] (.reg [xo 3 (.mkfn Vm [(.t 1)]),mv 2 3]) (.ret)) def r_endpoint_Check_1:List Y9:=[.tmp 2]
def Ky (Γ:Env) (f:Nat):Prop:=(∃ g:Nat,∀ k:Nat,EvC Γ f [.clo (.n k) []] (.clo (.n g) [.ro [.clo (.n k) []] 0]))
theorem aaJ {Γ:Env} {f Vm:Nat} (h:Has Γ.P f 4 (K1 Vm) r_endpoint_Check_1) :Ky Γ f:=by
  refine ⟨Vm,fun k=>?_⟩
  refine Wb h (by simp) (by simp only [V.closed,Qw,and_self]) fun C hC hm=>?_
  subst hC
  unfold K1
  repeat' (first|refine Qp fun K' hK=>?_|refine Qt fun K' hK=>?_|refine Qq ?_|refine Qr ?_|refine Qa ?_|((first|refine Qs ⟨_,rfl,fun hc=>?_,fun hc=>?_⟩|refine QM (fun hc=>?_) (fun hc=>?_)|refine QN (fun hc=>?_) (fun hc=>?_))<;>first|(cases hc;done)|((try simp only [znz] at hc);first|exact znf|skip))|refine Qv ?_|refine Qu ?_|simp (maxSteps:=1000000) only [go_sem]|(refine hK _ ?_;clear hK K')|apply And.intro|exact zlo|omega|exact zms)
  all_goals first|(refine Je _ rfl ?_;simp only [go_sem];done)
def Wk:AC:=QF [0,1] (.reg [mc 4 (V.int 0)]) (QF [] (QF [0,1,7,8] (.reg [mv 6 0,ln 7 6,mc 8 (V.int 0)]) (.block 0 (Wv [0,1,7,8] (QF [0,1,7,8,9] (.reg [bn 9 .lss 8 7]) (QF [0,1,7,8] (.cond (.t 9) (.skip) (.exit 0)) (QF [0,1,7,8] (.block 1 (QF [0,1,5,7,8] (.reg [mv 10 8,mv 5 10]) (QF [0,1,5,7,8,16] (.reg [mv 11 1,mv 12 0,mv 13 5,ia 14 1 12 13,ld 15 1 14,xo 16 (.callv (.t 11) [(.t 15)])]) (.cond (.t 16) (QF [4] (.reg [mv 17 5,mv 4 17]) (.ret)) (.skip))))) (.reg [bc 18 .add 8 (V.int 1),mv 8 18]))))))) (QF [4] (.reg [mc 4 (V.int (-1))]) (.ret))) def r_slices_IndexFunc___int_int:List Y9:=[.tmp 4]
def We (Γ:Env) (f:Nat):Prop:=∀ (g:Nat) (cap:List V) (hcap:Qw cap),EvN Γ f [.sc (.slice none 0 0),.clo g cap] (V.int (-1))
theorem jr {Γ:Env} {f:Nat} (h:Has Γ.P f 19 Wk r_slices_IndexFunc___int_int) :We Γ f:=by
  intro g cap hcap
  refine Jb h (by simp) (by simp only [V.closed,Qw,V.noSl,JL,and_self,and_true,true_and]) (by simp only [V.closed,Qw,V.noSl,JL,and_self,and_true,true_and]) fun C hC hm=>?_
  subst hC
  unfold Wk
  have s1:∀ o,X9 o cap = cap:=fun o=>WX o cap hcap
  have s2:∀ o B,JN o B cap = True:=fun o B=>eq_true (XG o B cap hcap)
  repeat' (first|refine Qp fun K' hK=>?_|refine Qt fun K' hK=>?_|refine Qq ?_|refine Qr ?_|refine Qa ?_|((first|refine Qs ⟨_,rfl,fun hc=>?_,fun hc=>?_⟩|refine QM (fun hc=>?_) (fun hc=>?_)|refine QN (fun hc=>?_) (fun hc=>?_))<;>first|(cases hc;done)|((try simp only [znz] at hc);first|exact znf|skip))|refine Qv ?_|refine Qu ?_|simp (maxSteps:=1000000) only [go_sem]|(refine hK _ ?_;clear hK K')|apply And.intro|exact zlo|omega|exact zms)
  refine JF (ι:=Unit) (fun _=>True) (fun _=>Ym [(0,nS),(7,V.int 0),(8,V.int 0)] [] 0) (fun _=>0) () trivial (Jp []) (Jq [] (by simp only [go_sem,and_true,true_and,implies_true,Option.some.injEq,exists_eq_left',Ql,Qo];(repeat' (first|rfl|apply And.intro|omega|exact fun h=>h|exact Exists.intro _ rfl))) (by simp only [go_sem,and_true,true_and,implies_true,Option.some.injEq,exists_eq_left',Ql,Qo];(repeat' (first|rfl|apply And.intro|omega|exact fun h=>h|exact Exists.intro _ rfl))) (by simp) (by simp) (by omega)) fun k hk K' hL=>?_
  repeat' (first|refine Qp fun K' hK=>?_|refine Qt fun K' hK=>?_|refine Qq ?_|refine Qr ?_|refine Qa ?_|((first|refine Qs ⟨_,rfl,fun hc=>?_,fun hc=>?_⟩|refine QM (fun hc=>?_) (fun hc=>?_)|refine QN (fun hc=>?_) (fun hc=>?_))<;>first|(cases hc;done)|((try simp only [znz] at hc);first|exact znf|skip))|refine Qv ?_|refine Qu ?_|simp (maxSteps:=1000000) only [go_sem,Ym]|(refine hK _ ?_;clear hK K')|apply And.intro|exact zlo|omega|exact zms)
  all_goals first|(refine Je _ rfl ?_;simp only [go_sem];done)
def Xy (Y5:Nat):AC:=QF [0,1] (.reg [mc 4 (V.bool false)]) (QF [4] (.reg [mv 5 0,mv 6 1,cl 7 Y5 [5,6],bc 8 .geq 7 (V.int 0),mv 4 8]) (.ret)) def r_slices_ContainsFunc___int_int:List Y9:=[.tmp 4]
def Xk (Γ:Env) (f:Nat):Prop:=∀ (g:Nat) (cap:List V) (hcap:Qw cap),EvN Γ f [.sc (.slice none 0 0),.clo g cap] (V.bool false)
theorem ql {Γ:Env} {f Y5:Nat} (h:Has Γ.P f 9 (Xy Y5) r_slices_ContainsFunc___int_int) (Ui:We Γ Y5):Xk Γ f:=by
  intro g cap hcap
  refine Jb h (by simp) (by simp only [V.closed,Qw,V.noSl,JL,and_self,and_true,true_and]) (by simp only [V.closed,Qw,V.noSl,JL,and_self,and_true,true_and]) fun C hC hm=>?_
  subst hC
  unfold Xy
  have s1:∀ o,X9 o cap = cap:=fun o=>WX o cap hcap
  have s2:∀ o B,JN o B cap = True:=fun o B=>eq_true (XG o B cap hcap)
  have hi:=(Ui g cap hcap).b
  have e0:decide ((-1:Int)≥0) = false:=rfl
  repeat' (first|refine Qp fun K' hK=>?_|refine Qt fun K' hK=>?_|refine Qq ?_|refine Qr ?_|refine Qa ?_|((first|refine Qs ⟨_,rfl,fun hc=>?_,fun hc=>?_⟩|refine QM (fun hc=>?_) (fun hc=>?_)|refine QN (fun hc=>?_) (fun hc=>?_))<;>first|(cases hc;done)|((try simp only [znz] at hc);first|exact znf|skip))|refine Qv ?_|refine Qu ?_|simp (maxSteps:=1000000) only [go_sem,s1,s2,e0]|(refine hK _ ?_;clear hK K')|apply And.intro|(apply QX;(focus first|exact hi|exact (Ui _ _ zsd).b))|exact zlo|omega|exact zms)
  all_goals first|(refine Je _ rfl ?_;simp only [go_sem];done)
def KL (JJ QW JM:Nat):List AO:=[fa 71 6 1,ld 72 1 71,mv 73 5,xo 74 (.callv (.t 73) [(.c (.clo JJ []))]),cl 75 QW [72,74],mv 76 75,xg 77 (.faddr 7 (.t 1)) 76 false,xg 78 (.load false 1 (.t 77)) 76 false,mg 79 5 76 false,xg 80 (.callv (.t 79) [(.c (.clo JM []))]) 76 false,xg 81 (.call QW [(.t 78),(.t 80)]) 76 false,xo 82 (.pick (.t 76) (.c (V.bool true)) (.t 81))]
def K7:List (List Nat):=[[],[0],[],[2],[1,3,3],[4,4],[5],[6,5],[5],[8,5,5],[7,9,9,5],[5,10]]
def KG:OT:=.one 0 (.one 1 (.one 2 (.or 3 (.or 4 (.one 5 (.one 8 (.or 6 (.or 7 (.or 9 (.one 10 (.one 11 (.done))) (.done)) (.or 9 (.one 7 (.one 10 (.one 11 (.done)))) (.done))) (.or 9 (.one 6 (.one 7 (.one 10 (.one 11 (.done))))) (.done))))) (.done)) (.done))))
def Uf (JJ QW JM:Nat):OP:=.one 0 false [] (fa 71 6 1) (.one 1 false [] (ld 72 1 71) (.one 2 false [] (mv 73 5) (.or 3 true [] (xo 74 (.callv (.t 73) [(.c (.clo JJ []))])) (.or 4 false [3] (cl 75 QW [72,74]) (.one 5 false [4,3] (mv 76 75) (.one 8 false [4,3] (mg 79 5 76 false) (.or 6 false [4,3] (xg 77 (.faddr 7 (.t 1)) 76 false) (.or 7 false [4,3] (xg 78 (.load false 1 (.t 77)) 76 false) (.or 9 true [4,3] (xg 80 (.callv (.t 79) [(.c (.clo JM []))]) 76 false) (.one 10 false [9,4,3] (xg 81 (.call QW [(.t 78),(.t 80)]) 76 false) (.one 11 false [10,9,4,3] (xo 82 (.pick (.t 76) (.c (V.bool true)) (.t 81))) (.done))) (.done)) (.or 9 true [4,3] (xg 80 (.callv (.t 79) [(.c (.clo JM []))]) 76 false) (.one 7 false [4,3] (xg 78 (.load false 1 (.t 77)) 76 false) (.one 10 false [9,4,3] (xg 81 (.call QW [(.t 78),(.t 80)]) 76 false) (.one 11 false [10,9,4,3] (xo 82 (.pick (.t 76) (.c (V.bool true)) (.t 81))) (.done)))) (.done))) (.or 9 true [4,3] (xg 80 (.callv (.t 79) [(.c (.clo JM []))]) 76 false) (.one 6 false [4,3] (xg 77 (.faddr 7 (.t 1)) 76 false) (.one 7 false [4,3] (xg 78 (.load false 1 (.t 77)) 76 false) (.one 10 false [9,4,3] (xg 81 (.call QW [(.t 78),(.t 80)]) 76 false) (.one 11 false [10,9,4,3] (xo 82 (.pick (.t 76) (.c (V.bool true)) (.t 81))) (.done))))) (.done))))) (.done)) (.done))))
theorem Uh (JJ QW JM:Nat):okR (KL JJ QW JM) K7 [3,9] KG = true:=by kernel_rfl
theorem Uc (JJ QW JM:Nat):Vo (ris (KL JJ QW JM) K7 [3,9]) KG = Uf JJ QW JM:=by kernel_rfl def c_endpoint_Check (Xe UF WV JH Um JJ QW JM:Nat):AC:=QF [1] (.reg [xo 1 (.box true 9 (.t 0)),mc 2 (V.int 0)]) (QF [1] (QF [1,32] (.reg [fa 6 0 1,ld 7 1 6,cl 8 Xe [7],xo 9 (.un .not (.t 8)),mv 10 9,xg 11 (.faddr 1 (.t 1)) 10 false,xg 12 (.load false 1 (.t 11)) 10 false,xg 13 (.bin .lss (.t 12) (.c (V.int 1))) 10 false,xo 14 (.pick (.t 10) (.c (V.bool true)) (.t 13)),mv 15 14,xg 16 (.faddr 1 (.t 1)) 15 false,xg 17 (.load false 1 (.t 16)) 15 false,xg 18 (.faddr 2 (.t 1)) 15 false,xg 19 (.load false 1 (.t 18)) 15 false,xg 20 (.bin .gtr (.t 17) (.t 19)) 15 false,xo 21 (.pick (.t 15) (.c (V.bool true)) (.t 20)),mv 22 21,xg 23 (.faddr 2 (.t 1)) 22 false,xg 24 (.load false 1 (.t 23)) 22 false,xg 25 (.bin .gtr (.t 24) (.c (V.int 4))) 22 false,xo 26 (.pick (.t 22) (.c (V.bool true)) (.t 25)),mv 27 26,xg 28 (.faddr 3 (.t 1)) 27 false,xg 29 (.load false 1 (.t 28)) 27 false,xg 30 (.call UF [(.t 29)]) 27 false,xg 31 (.un .not (.t 30)) 27 false,xo 32 (.pick (.t 27) (.c (V.bool true)) (.t 31))]) (.cond (.t 32) (QF [2] (.reg [mc 2 (V.int 19)]) (.ret)) (.skip))) (QF [1] (QF [1,54] (.reg [fa 33 5 1,ld 34 1 33,ln 35 34,bc 36 .gtr 35 (V.int 4),mv 37 36,xg 38 (.faddr 6 (.t 1)) 37 false,xg 39 (.load false 1 (.t 38)) 37 false,xg 40 (.lenL (.t 39)) 37 false,xg 41 (.bin .gtr (.t 40) (.c (V.int 16))) 37 false,xo 42 (.pick (.t 37) (.c (V.bool true)) (.t 41)),mv 43 42,xg 44 (.faddr 6 (.t 1)) 43 false,xg 45 (.load false 1 (.t 44)) 43 false,xg 46 (.call WV [(.t 45)]) 43 false,xg 47 (.un .not (.t 46)) 43 false,xo 48 (.pick (.t 43) (.c (V.bool true)) (.t 47)),mv 49 48,xg 50 (.faddr 7 (.t 1)) 49 false,xg 51 (.load false 1 (.t 50)) 49 false,xg 52 (.call WV [(.t 51)]) 49 false,xg 53 (.un .not (.t 52)) 49 false,xo 54 (.pick (.t 49) (.c (V.bool true)) (.t 53))]) (.cond (.t 54) (QF [2] (.reg [mc 2 (V.int 19)]) (.ret)) (.skip))) (QF [1] (QF [1,56,57,58] (.reg [fa 55 5 1,ld 56 1 55,ln 57 56,mc 58 (V.int 0)]) (.block 0 (Wv [1,56,57,58] (QF [1,56,57,58,59] (.reg [bn 59 .lss 58 57]) (QF [1,56,57,58] (.cond (.t 59) (.skip) (.exit 0)) (QF [1,56,57,58] (.block 1 (QF [1,4,56,57,58] (.reg [ia 60 4 56 58,xo 61 (.load true 4 (.t 60)),xo 4 (.alloc [.val (.int .i64 0),.val (.int .i64 0),.val (.int .i64 0),.nil 15]),xs 4 4 61]) (QF [1,56,57,58,69] (.reg [fa 62 0 4,xo 63 (.load true 2 (.t 62)),fa 64 2 4,ld 65 1 64,fa 66 3 4,ld 67 1 66,cl 68 JH [63,65,67],xo 69 (.un .not (.t 68))]) (.cond (.t 69) (QF [2] (.reg [mc 2 (V.int 19)]) (.ret)) (.skip))))) (.reg [bc 70 .add 58 (V.int 1),mv 58 70]))))))) (QF [1,5] (.reg [mc 5 (.clo Um [])]) (QF [] (QF [82] (aaY [3,9] KG (Uf JJ QW JM) (KL JJ QW JM) K7) (.cond (.t 82) (QF [2] (.reg [mc 2 (V.int 19)]) (.ret)) (.skip))) (QF [2] (.reg [mc 2 (V.int 0)]) (.ret))))))) def r_endpoint_Check:List Y9:=[.tmp 2]
def qV (Γ:Env) (f:Nat):Prop:=∀ (d:Jy) (hs:d.name.length < 2 ^ 30) (hn:afH d.name = true) (h1:1≤d.least) (h2:d.least≤d.most) (h3:d.most≤4) (hr:NR d.suites),EvN Γ f [d.ep] (V.int 0)
theorem ab5 {Γ:Env} {f Xe UF WV JH Um JJ QW JM:Nat} (h:Has Γ.P f 83 (c_endpoint_Check Xe UF WV JH Um JJ QW JM) r_endpoint_Check) (Vp:Kf Γ Xe) (qy:qi Γ UF) (yM:Kx Γ WV) (abd:Ky Γ Um) (YL:Xk Γ QW):qV Γ f:=by
  intro d hs hn h1 h2 h3 hr
  refine Jb h (by simp) (by simp only [V.closed,Qw,V.noSl,JL,and_self,and_true,true_and]) (by simp only [V.closed,Qw,V.noSl,JL,and_self,and_true,true_and]) fun C hC hm=>?_
  subst hC
  unfold c_endpoint_Check
  have hw:=(Vp d.name hs).b
  rw [hn] at hw
  have hsl:=akY hr.nd hr.rg
  have hsu:=(qy d.suites (by omega) hr.nd hr.rg).b
  have e1:decide (d.least < 1) = false:=by simp;omega
  have e2:decide (d.least > d.most) = false:=by simp;omega
  have e3:decide (d.most > 4) = false:=by simp;omega
  obtain ⟨g,hg⟩:=abd
  have g1:=(hg JJ).b
  have g2:=(hg JM).b
  have k1:=(YL g [.ro [.clo (.n JJ) []] 0] (by simp [V.closed,Qw])).b
  have k2:=(YL g [.ro [.clo (.n JM) []] 0] (by simp [V.closed,Qw])).b
  simp only [Jy.ep]
  repeat' (first|refine Qp fun K' hK=>?_|refine Qt fun K' hK=>?_|refine Qm 12 (fun _=>true) rfl (Uh _ _ _) (Uc _ _ _) fun K' hK=>?_|refine Qn 12 (fun _=>true) rfl (Uh _ _ _) (Uc _ _ _) fun K' hK=>?_|refine Qq ?_|refine Qr ?_|refine Qa ?_|((first|refine Qs ⟨_,rfl,fun hc=>?_,fun hc=>?_⟩|refine QM (fun hc=>?_) (fun hc=>?_)|refine QN (fun hc=>?_) (fun hc=>?_))<;>first|(cases hc;done)|((try simp only [znz] at hc);first|exact znf|skip))|refine Qv ?_|refine Qu ?_|simp (maxSteps:=1000000) only [go_sem,e1,e2,e3,Uf]|(refine hK _ ?_;clear hK K')|apply And.intro|((first|apply QX|apply Jz);(focus first|exact hw|exact hsu|exact g1|exact g2|exact k1|exact k2|exact (Vp _ zsd).b|exact (qy _ zsd zsd zsd).b|exact EvN.b yM|exact (YL _ _ zsd).b))|exact zlo|omega|exact zms)
  refine JF (ι:=Unit) (fun _=>True) (fun _=>Ym [(1,.ptr 0 0),(56,nS),(57,V.int 0),(58,V.int 0)] [(0,.box true [V.str d.name,V.int d.least,V.int d.most,.sl 1 (d.suites.map V.int),V.bool d.own,.sc (.slice none 0 0),.sc (.slice none 0 0),.sc (.slice none 0 0),V.bool d.fall])] 1) (fun _=>0) () trivial (Jp []) (Jq [] (by simp only [go_sem,and_true,true_and,implies_true,Option.some.injEq,exists_eq_left',Ql,Qo];(repeat' (first|rfl|apply And.intro|omega|exact fun h=>h|exact Exists.intro _ rfl))) (by simp only [go_sem,and_true,true_and,implies_true,Option.some.injEq,exists_eq_left',Ql,Qo];(repeat' (first|rfl|apply And.intro|omega|exact fun h=>h|exact Exists.intro _ rfl))) (by simp) (by simp) (by omega)) fun k hk K' hL=>?_
  repeat' (first|refine Qp fun K' hK=>?_|refine Qt fun K' hK=>?_|refine Qm 12 (fun _=>true) rfl (Uh _ _ _) (Uc _ _ _) fun K' hK=>?_|refine Qn 12 (fun _=>true) rfl (Uh _ _ _) (Uc _ _ _) fun K' hK=>?_|refine Qq ?_|refine Qr ?_|refine Qa ?_|((first|refine Qs ⟨_,rfl,fun hc=>?_,fun hc=>?_⟩|refine QM (fun hc=>?_) (fun hc=>?_)|refine QN (fun hc=>?_) (fun hc=>?_))<;>first|(cases hc;done)|((try simp only [znz] at hc);first|exact znf|skip))|refine Qv ?_|refine Qu ?_|simp (maxSteps:=1000000) only [go_sem,Ym,Uf]|(refine hK _ ?_;clear hK K')|apply And.intro|((first|apply QX|apply Jz);(focus first|exact g1|exact g2|exact k1|exact k2|exact (Vp _ zsd).b|exact (qy _ zsd zsd zsd).b|exact EvN.b yM|exact (YL _ _ zsd).b))|exact zlo|omega|exact zms)
  all_goals first|(refine Je _ rfl ?_;simp only [go_sem];done)
end Av
end
section
set_option linter.unusedSimpArgs false
set_option linter.unusedVariables false
set_option maxRecDepth 10000
set_option maxHeartbeats 4000000
namespace Av
open Go
attribute [local irreducible] AWp V7 Kz KE awS awC jS awQ jY JB Wl jJ awR Ws awB okR Vo ris
theorem aiJ {α:Type} {p:α→Bool} {l r:List α} {k:Nat} {x:α} (h:l.drop k = x :: r):(l.drop k).any p = (p x || (l.drop (k + 1)).any p):=by
  obtain ⟨_,_,hr⟩:=Yp h
  rw [h,List.any_cons,hr]
def vi (c:UInt8):Bool:=decide ((c.toNat:Int)≤32) || decide ((c.toNat:Int) > 126)
def yH (s:List UInt8):Bool:=!s.any vi && (decide ((s.length:Int)≥1) && decide ((s.length:Int)≤32))
def vx:AC:=QF [0] (.reg [mc 2 (V.bool false)]) (QF [0] (QF [0,11] (.reg [mv 4 0,xo 5 (.lenS (.t 4)),bc 6 .lss 5 (V.int 1),mv 7 6,mg 8 0 7 false,xg 9 (.lenS (.t 8)) 7 false,xg 10 (.bin .gtr (.t 9) (.c (V.int 32))) 7 false,xo 11 (.pick (.t 7) (.c (V.bool true)) (.t 10))]) (.cond (.t 11) (QF [2] (.reg [mc 2 (V.bool false)]) (.ret)) (.skip))) (QF [] (QF [0,3] (.reg [mc 3 (V.int 0)]) (.block 0 (Wv [0,3] (QF [0,3] (QF [0,3,15] (.reg [mv 12 3,mv 13 0,xo 14 (.lenS (.t 13)),bn 15 .lss 12 14]) (.cond (.t 15) (.skip) (.exit 0))) (QF [0,3] (.block 1 (QF [0,3,27] (.reg [mv 18 0,mv 19 3,xo 20 (.idxS (.t 18) (.t 19)),bc 21 .lss 20 (.sc (.int .u8 33)),mv 22 21,mg 23 0 22 false,mg 24 3 22 false,xg 25 (.idxS (.t 23) (.t 24)) 22 false,xg 26 (.bin .gtr (.t 25) (.c (.sc (.int .u8 126)))) 22 false,xo 27 (.pick (.t 22) (.c (V.bool true)) (.t 26))]) (.cond (.t 27) (QF [2] (.reg [mc 2 (V.bool false)]) (.ret)) (.skip)))) (.reg [mv 16 3,bc 17 .add 16 (V.int 1),mv 3 17])))))) (QF [2] (.reg [mc 2 (V.bool true)]) (.ret)))) def r_ref03_Name:List Y9:=[.tmp 2]
def wJ (Γ:Env) (f:Nat):Prop:=∀ (s:List UInt8) (hs:s.length < 2 ^ 60),EvN Γ f [V.str s] (V.bool (yH s))
theorem afo {Γ:Env} {f:Nat} (h:Has Γ.P f 28 vx r_ref03_Name) :wJ Γ f:=by
  intro s hs
  refine Jb h (by simp) (by simp only [V.closed,Qw,V.noSl,JL,and_self,and_true,true_and]) (by simp only [V.closed,Qw,V.noSl,JL,and_self,and_true,true_and]) fun C hC hm=>?_
  subst hC
  unfold vx
  by_cases h0:s.length < 1
  · have e1:decide ((s.length:Int) < 1) = true:=decide_eq_true (by omega)
    have e2:yH s = false:=by unfold yH;rw [decide_eq_false (by omega:¬ (s.length:Int)≥1)];simp
    rw [e2]
    repeat' (first|refine Qp fun K' hK=>?_|refine Qt fun K' hK=>?_|refine Qq ?_|refine Qr ?_|refine Qa ?_|((first|refine Qs ⟨_,rfl,fun hc=>?_,fun hc=>?_⟩|refine QM (fun hc=>?_) (fun hc=>?_)|refine QN (fun hc=>?_) (fun hc=>?_))<;>first|(cases hc;done)|((try simp only [znz] at hc);first|exact znf|skip))|refine Qv ?_|refine Qu ?_|simp (maxSteps:=1000000) only [go_sem,e1]|(refine hK _ ?_;clear hK K')|apply And.intro|exact zlo|omega|exact zms)
    all_goals first|(refine Je _ rfl ?_;simp only [go_sem];done)
  have e1:decide ((s.length:Int) < 1) = false:=decide_eq_false (by omega)
  by_cases h1:s.length > 32
  · have e3:decide ((s.length:Int) > 32) = true:=decide_eq_true (by omega)
    have e2:yH s = false:=by unfold yH;rw [decide_eq_false (by omega:¬ (s.length:Int)≤32)];simp
    rw [e2]
    repeat' (first|refine Qp fun K' hK=>?_|refine Qt fun K' hK=>?_|refine Qq ?_|refine Qr ?_|refine Qa ?_|((first|refine Qs ⟨_,rfl,fun hc=>?_,fun hc=>?_⟩|refine QM (fun hc=>?_) (fun hc=>?_)|refine QN (fun hc=>?_) (fun hc=>?_))<;>first|(cases hc;done)|((try simp only [znz] at hc);first|exact znf|skip))|refine Qv ?_|refine Qu ?_|simp (maxSteps:=1000000) only [go_sem,e1,e3]|(refine hK _ ?_;clear hK K')|apply And.intro|exact zlo|omega|exact zms)
    all_goals first|(refine Je _ rfl ?_;simp only [go_sem];done)
  have e3:decide ((s.length:Int) > 32) = false:=decide_eq_false (by omega)
  have e2:yH s = !s.any vi:=by unfold yH;rw [decide_eq_true (by omega:(s.length:Int)≤32),decide_eq_true (by omega:(s.length:Int)≥1)];simp
  rw [e2]
  repeat' (first|refine Qp fun K' hK=>?_|refine Qt fun K' hK=>?_|refine Qq ?_|refine Qr ?_|refine Qa ?_|((first|refine Qs ⟨_,rfl,fun hc=>?_,fun hc=>?_⟩|refine QM (fun hc=>?_) (fun hc=>?_)|refine QN (fun hc=>?_) (fun hc=>?_))<;>first|(cases hc;done)|((try simp only [znz] at hc);first|exact znf|skip))|refine Qv ?_|refine Qu ?_|simp (maxSteps:=1000000) only [go_sem,e1,e3]|(refine hK _ ?_;clear hK K')|apply And.intro|exact zlo|omega|exact zms)
  refine Wz (ι:=Nat) (fun k=>k≤s.length∧(s.drop k).any vi = s.any vi) (fun k=>[(3,V.int k)]) (fun k=>s.length - k) 0 (by omega) ⟨by simp,by simp⟩ (by repeat' first|exact VK|refine Kn (by omega) (by simp only [Ob.lt,ltL,V.lt,and_self,and_true];try omega) ?_) (fun i hi=>by simp only [ovT,YO,Nat.reduceEqDiff,reduceIte];(repeat' first|exact Km|refine VJ ?_ ?_|simp only [V.lt,ltL,and_self,and_true]|omega)) (by simp only [Nat.reduceAdd,ovT,YO,Nat.reduceEqDiff,reduceIte,J9,Yz,w7,u32,u33,u34,u35,u36,u37,u38,u39,and_self,and_true,true_and];first|done|rfl) fun k hk K' hL=>?_
  obtain ⟨hk,hinv⟩:=hk
  simp only [ovT,YO,Nat.reduceEqDiff,reduceIte]
  rcases hd:s.drop k with _|⟨c,r⟩
  · have:=YX hd
    rw [hd] at hinv
    have e4:decide ((k:Int) < ((s.length:Nat):Int)) = false:=by simp;omega
    rw [← hinv]
    repeat' (first|refine Qp fun K' hK=>?_|refine Qt fun K' hK=>?_|refine Qq ?_|refine Qr ?_|refine Qa ?_|((first|refine Qs ⟨_,rfl,fun hc=>?_,fun hc=>?_⟩|refine QM (fun hc=>?_) (fun hc=>?_)|refine QN (fun hc=>?_) (fun hc=>?_))<;>first|(cases hc;done)|((try simp only [znz] at hc);first|exact znf|skip))|refine Qv ?_|refine Qu ?_|simp (maxSteps:=1000000) only [go_sem,e4]|(refine hK _ ?_;clear hK K')|apply And.intro|exact zlo|omega|exact zms)
    all_goals first|(refine Je _ rfl ?_;simp only [go_sem];done)|(refine Je _ rfl ?_;simp only [go_sem];simp;done)
  · obtain ⟨hk',hget,hr⟩:=Yp hd
    have hst:=aiJ (p:=vi) hd
    rw [hinv] at hst
    have hw:=JO (k:=k) (by omega)
    have e4:decide ((k:Int) < ((s.length:Nat):Int)) = true:=by simp;omega
    have e5:decide ((c.toNat:Int) < 33) = decide ((c.toNat:Int)≤32):=decide_eq_decide.2 (by omega)
    rcases h2:decide ((c.toNat:Int)≤32) with _|_
    · rcases h3:decide ((c.toNat:Int) > 126) with _|_
      · have hb:vi c = false:=by unfold vi;rw [h2,h3];rfl
        rw [hb,Bool.false_or] at hst
        repeat' (first|refine Qp fun K' hK=>?_|refine Qt fun K' hK=>?_|refine Qq ?_|refine Qr ?_|refine Qa ?_|((first|refine Qs ⟨_,rfl,fun hc=>?_,fun hc=>?_⟩|refine QM (fun hc=>?_) (fun hc=>?_)|refine QN (fun hc=>?_) (fun hc=>?_))<;>first|(cases hc;done)|((try simp only [znz] at hc);first|exact znf|skip))|refine Qv ?_|refine Qu ?_|simp (maxSteps:=1000000) only [go_sem,e4,hw,Int.toNat_natCast,hget,e5,h2,h3]|(refine hK _ ?_;clear hK K')|apply And.intro|exact zlo|omega|exact zms)
        all_goals first
          | exact hL _ (k + 1) (by simp only [Nat.reduceAdd,ovT,YO,Nat.reduceEqDiff,reduceIte,J9,Yz,w7,u32,u33,u34,u35,u36,u37,u38,u39,and_self,and_true,true_and]) ⟨by omega,hst.symm⟩ (by omega) (fun a ha=>by simp only [u32,u33,u34,u35,u36,u37,u38,u39];repeat rw [if_neg (by omega)])
      · have hb:vi c = true:=by unfold vi;rw [h3,Bool.or_true]
        rw [hb,Bool.true_or] at hst
        rw [hst]
        repeat' (first|refine Qp fun K' hK=>?_|refine Qt fun K' hK=>?_|refine Qq ?_|refine Qr ?_|refine Qa ?_|((first|refine Qs ⟨_,rfl,fun hc=>?_,fun hc=>?_⟩|refine QM (fun hc=>?_) (fun hc=>?_)|refine QN (fun hc=>?_) (fun hc=>?_))<;>first|(cases hc;done)|((try simp only [znz] at hc);first|exact znf|skip))|refine Qv ?_|refine Qu ?_|simp (maxSteps:=1000000) only [go_sem,e4,hw,Int.toNat_natCast,hget,e5,h2,h3]|(refine hK _ ?_;clear hK K')|apply And.intro|exact zlo|omega|exact zms)
        all_goals first|(refine Je _ rfl ?_;simp only [go_sem];done)
    · have hb:vi c = true:=by unfold vi;rw [h2,Bool.true_or]
      rw [hb,Bool.true_or] at hst
      rw [hst]
      repeat' (first|refine Qp fun K' hK=>?_|refine Qt fun K' hK=>?_|refine Qq ?_|refine Qr ?_|refine Qa ?_|((first|refine Qs ⟨_,rfl,fun hc=>?_,fun hc=>?_⟩|refine QM (fun hc=>?_) (fun hc=>?_)|refine QN (fun hc=>?_) (fun hc=>?_))<;>first|(cases hc;done)|((try simp only [znz] at hc);first|exact znf|skip))|refine Qv ?_|refine Qu ?_|simp (maxSteps:=1000000) only [go_sem,e4,hw,Int.toNat_natCast,hget,e5,h2]|(refine hK _ ?_;clear hK K')|apply And.intro|exact zlo|omega|exact zms)
      all_goals first|(refine Je _ rfl ?_;simp only [go_sem];done)
theorem afX:UL [104,105,103,104,58,33,114,115,97] = ([9,11,14,15,16],0,0):=by decide +kernel
theorem ah4:UL [97,108,108] = ([1,2,3,4,5,6,7,8,9,10,11,12,13,14,15,16],0,0):=by decide +kernel
theorem aj3:agv = [1,2,3,4,5,6,7,8,9,10,11,12,13,14,15,16]:=by decide +kernel
theorem am2 {n:Int} (h1:1≤n) (h2:n≤4):aiL [UInt8.ofNat (48 + n).toNat] = true∧qK [UInt8.ofNat (48 + n).toNat] = n:=by
  rcases (by omega:n = 1∨n = 2∨n = 3∨n = 4) with rfl|rfl|rfl|rfl<;>decide +kernel
def wA (JX Kd:Nat):AC:=QF [] (.reg [mc 0 (V.bool false)]) (QF [1,2,3] (.reg [xo 5 (.build [(.string ⟨#[]⟩),(.string ⟨#[]⟩),(.string ⟨#[]⟩),(.int .i64 0)] [(0,1,(.c (V.str [119,101,98]))),(1,1,(.c (V.str [109,111,115,116]))),(2,1,(.c (V.str [51])))]),xo 6 (.build [(.string ⟨#[]⟩),(.string ⟨#[]⟩),(.string ⟨#[]⟩),(.int .i64 0)] [(0,1,(.c (V.str [119,101,98]))),(1,1,(.c (V.str [115,117,105,116,101,115]))),(2,1,(.c (V.str [104,105,103,104,58,33,114,115,97])))]),xo 7 (.bslice 2 4 true [(.string ⟨#[]⟩),(.string ⟨#[]⟩),(.string ⟨#[]⟩),(.int .i64 0)] [(0,(.t 5)),(1,(.t 6))]),xo 8 (.call JX [(.t 7),(.c (V.str [119,101,98])),(.c (.sc (.slice none 0 0)))]),mv 4 8,ex 9 4 0,ex 10 4 1,ex 11 4 2,xo 1 (.alloc [.val (.string ⟨#[]⟩),.val (.int .i64 0),.val (.int .i64 0),.nil 1,.val (.bool false),.nil 4,.nil 1,.nil 1,.val (.bool false)]),xs 9 1 9,mv 2 10,mv 3 11]) (QF [0] (.reg [mv 12 3,bc 13 .eql 12 (V.int 0),mv 14 13,mg 15 2 14 true,xg 16 (.bin .eql (.t 15) (.c (V.int 0))) 14 true,xo 17 (.pick (.t 14) (.t 16) (.c (V.bool false))),mv 18 17,xg 19 (.faddr 0 (.t 1)) 18 true,xg 20 (.load false 1 (.t 19)) 18 true,xg 21 (.bin .eql (.t 20) (.c (V.str [119,101,98]))) 18 true,xo 22 (.pick (.t 18) (.t 21) (.c (V.bool false))),mv 23 22,xg 24 (.faddr 1 (.t 1)) 23 true,xg 25 (.load false 1 (.t 24)) 23 true,xg 26 (.bin .eql (.t 25) (.c (V.int 1))) 23 true,xo 27 (.pick (.t 23) (.t 26) (.c (V.bool false))),mv 28 27,xg 29 (.faddr 2 (.t 1)) 28 true,xg 30 (.load false 1 (.t 29)) 28 true,xg 31 (.bin .eql (.t 30) (.c (V.int 3))) 28 true,xo 32 (.pick (.t 28) (.t 31) (.c (V.bool false))),mv 33 32,xg 34 (.faddr 3 (.t 1)) 33 true,xg 35 (.load false 1 (.t 34)) 33 true,xg 36 (.lenL (.t 35)) 33 true,xg 37 (.bin .gtr (.t 36) (.c (V.int 0))) 33 true,xo 38 (.pick (.t 33) (.t 37) (.c (V.bool false))),mv 39 38,xg 40 (.load true 9 (.t 1)) 39 true,xg 41 (.call Kd [(.t 40)]) 39 true,xg 42 (.bin .eql (.t 41) (.c (V.int 0))) 39 true,xo 43 (.pick (.t 39) (.t 42) (.c (V.bool false))),mv 0 43]) (.ret))) def r_law09_awake:List Y9:=[.tmp 0]
def xC (Γ:Env) (f:Nat):Prop:=EvN Γ f [] (V.bool true)
theorem aek {Γ:Env} {f JX Kd:Nat} (h:Has Γ.P f 44 (wA JX Kd) r_law09_awake) (JW:X8 Γ JX) (wT:qV Γ Kd):xC Γ f:=by
  refine Jb h (by simp) (by simp only [V.closed,Qw,V.noSl,JL,and_self,and_true,true_and]) (by simp only [V.closed,Qw,V.noSl,JL,and_self,and_true,true_and]) fun C hC hm=>?_
  subst hC
  unfold wA
  have hrun:ad3 (aco [⟨[119,101,98],[109,111,115,116],[51],0⟩,⟨[119,101,98],[115,117,105,116,101,115],[104,105,103,104,58,33,114,115,97],0⟩] [119,101,98]) ⟨[119,101,98],1,4,agv,false,false⟩ = some ⟨[119,101,98],1,3,[9,11,14,15,16],false,false⟩:=by
    have hv:aiL [51] = true:=by decide +kernel
    have ha:qK [51] = 3:=by decide +kernel
    have ho:aco [⟨[119,101,98],[109,111,115,116],[51],0⟩,⟨[119,101,98],[115,117,105,116,101,115],[104,105,103,104,58,33,114,115,97],0⟩] [119,101,98] = [⟨[119,101,98],[109,111,115,116],[51],0⟩,⟨[119,101,98],[115,117,105,116,101,115],[104,105,103,104,58,33,114,115,97],0⟩]:=rfl
    rw [ho]
    have n1:([⟨[119,101,98],[115,117,105,116,101,115],[104,105,103,104,58,33,114,115,97],0⟩]:List Uq).any (fun y=>y.name == [109,111,115,116]) = false:=rfl
    rw [ad3,if_neg (by rw [n1];decide),yV,if_neg (by decide),if_pos rfl,if_pos hv,ha,Option.bind_some,ad3,if_neg (by decide),yV,if_neg (by decide),if_neg (by decide),if_pos rfl,afX]
    rfl
  have hf:=(JW [⟨[119,101,98],[109,111,115,116],[51],0⟩,⟨[119,101,98],[115,117,105,116,101,115],[104,105,103,104,58,33,114,115,97],0⟩] [119,101,98] _ (by decide) (by decide +kernel) (by decide) (fun x hx=>by
    simp only [List.mem_cons,List.not_mem_nil,or_false] at hx
    rcases hx with rfl|rfl<;>decide) (fun x hx=>by
    have hx:=(List.mem_filter.1 hx).1
    simp only [List.mem_cons,List.not_mem_nil,or_false] at hx
    rcases hx with rfl|rfl
    · exact .inr (.inl rfl)
    · exact .inr (.inr (.inl rfl))) (by decide) hrun)
  have hk:=(wT ⟨[119,101,98],1,3,[9,11,14,15,16],false,false⟩ (by decide) (by decide +kernel) (by decide) (by decide) (by decide) ⟨by decide,by decide⟩).b
  simp only [aiN,Jy.ep,Uq.v,Uq.cells,List.map_cons,List.map_nil] at hf hk
  rw [if_pos (by decide)] at hf
  repeat' (first|refine Qp fun K' hK=>?_|refine Qt fun K' hK=>?_|refine Qq ?_|refine Qr ?_|refine Qa ?_|((first|refine Qs ⟨_,rfl,fun hc=>?_,fun hc=>?_⟩|refine QM (fun hc=>?_) (fun hc=>?_)|refine QN (fun hc=>?_) (fun hc=>?_))<;>first|(cases hc;done)|((try simp only [znz] at hc);first|exact znf|skip))|refine Qv ?_|refine Qu ?_|simp (maxSteps:=1000000) only [go_sem]|(refine hK _ ?_;clear hK K')|apply And.intro|(apply ahP;(focus first|exact hf))|(apply QX;(focus first|exact hk|exact (JW _ _ _ zsd zsd zsd zsd zsd zsd zsd zsd).b|exact (wT _ zsd zsd zsd zsd zsd zsd).b))|exact zlo|omega|exact zms)
  all_goals first|(refine Je _ rfl ?_;simp only [go_sem];done)
def vm (hb:UInt8):List Uq:=[⟨[119,101,98],[109,111,115,116],[57],0⟩,⟨[100,98],[109,111,115,116],[120],0⟩,⟨[119,101,98],[111,114,100,101,114],[111,119,110],0⟩,⟨[119,101,98],[109,111,115,116],[hb],0⟩,⟨[100,98],[122],[],0⟩]
theorem afP {x:Uq} {r:List Uq} {d:Jy} (h:r.any (fun y=>y.name == x.name) = true):ad3 (x :: r) d = ad3 r d:=by rw [ad3,if_pos h]
theorem adg {x:Uq} {r:List Uq} {d d':Jy} (h:r.any (fun y=>y.name == x.name) = false) (ha:yV d x = some d'):ad3 (x :: r) d = ad3 r d':=by rw [ad3,if_neg (by rw [h];decide),ha];rfl
theorem aka {hb:UInt8} {n:Int} (hv:aiL [hb] = true) (ha:qK [hb] = n):ad3 (aco (vm hb) [119,101,98]) ⟨[119,101,98],1,4,agv,false,false⟩ = some ⟨[119,101,98],1,n,agv,true,false⟩:=by
  have ho:aco (vm hb) [119,101,98] = [⟨[119,101,98],[109,111,115,116],[57],0⟩,⟨[119,101,98],[111,114,100,101,114],[111,119,110],0⟩,⟨[119,101,98],[109,111,115,116],[hb],0⟩]:=rfl
  rw [ho,afP rfl,adg (d':=⟨[119,101,98],1,4,agv,true,false⟩) rfl rfl,adg (d':=⟨[119,101,98],1,n,agv,true,false⟩) rfl (by rw [yV,if_neg (show ¬ ([109,111,115,116]:List UInt8) = [108,101,97,115,116] by decide),if_pos rfl,if_pos hv,ha])]
  rfl
theorem ai0 {hb lb:UInt8} {n m:Int} (hv:aiL [hb] = true) (ha:qK [hb] = n) (hv2:aiL [lb] = true) (ha2:qK [lb] = m):ad3 (aco (vm hb++[⟨[119,101,98],[108,101,97,115,116],[lb],0⟩]) [119,101,98]) ⟨[119,101,98],1,4,agv,false,false⟩ = some ⟨[119,101,98],m,n,agv,true,false⟩:=by
  have ho:aco (vm hb++[⟨[119,101,98],[108,101,97,115,116],[lb],0⟩]) [119,101,98] = [⟨[119,101,98],[109,111,115,116],[57],0⟩,⟨[119,101,98],[111,114,100,101,114],[111,119,110],0⟩,⟨[119,101,98],[109,111,115,116],[hb],0⟩,⟨[119,101,98],[108,101,97,115,116],[lb],0⟩]:=rfl
  rw [ho,afP rfl,adg (d':=⟨[119,101,98],1,4,agv,true,false⟩) rfl rfl,adg (d':=⟨[119,101,98],1,n,agv,true,false⟩) rfl (by rw [yV,if_neg (show ¬ ([109,111,115,116]:List UInt8) = [108,101,97,115,116] by decide),if_pos rfl,if_pos hv,ha]),adg (d':=⟨[119,101,98],m,n,agv,true,false⟩) rfl (by rw [yV,if_pos rfl,if_pos hv2,ha2])]
  rfl
theorem aeM {hb lb:UInt8}:∀ x∈aco (vm hb++[⟨[119,101,98],[108,101,97,115,116],[lb],0⟩]) [119,101,98],ahn x.name:=by
  have ho:aco (vm hb++[⟨[119,101,98],[108,101,97,115,116],[lb],0⟩]) [119,101,98] = [⟨[119,101,98],[109,111,115,116],[57],0⟩,⟨[119,101,98],[111,114,100,101,114],[111,119,110],0⟩,⟨[119,101,98],[109,111,115,116],[hb],0⟩,⟨[119,101,98],[108,101,97,115,116],[lb],0⟩]:=rfl
  rw [ho]
  intro x hx
  simp only [List.mem_cons,List.not_mem_nil,or_false] at hx
  rcases hx with rfl|rfl|rfl|rfl
  · exact .inr (.inl rfl)
  · exact .inr (.inr (.inr (.inl rfl)))
  · exact .inr (.inl rfl)
  · exact .inl rfl
theorem aht {hb lb:UInt8}:∀ x∈vm hb++[⟨[119,101,98],[108,101,97,115,116],[lb],0⟩],x.val.length < 2 ^ 30:=by
  intro x hx
  simp only [vm,List.cons_append,List.nil_append,List.mem_cons,List.not_mem_nil,or_false] at hx
  rcases hx with rfl|rfl|rfl|rfl|rfl|rfl<;>simp
def UT (yS UE wj U9 JX jP yP:Nat):AC:=QF [0,1,2] (.reg [mc 6 (V.bool false)]) (QF [0,1,2] (QF [0,1,2,19] (.reg [mv 17 0,cl 18 yS [17],xo 19 (.un .not (.t 18))]) (.cond (.t 19) (QF [6] (.reg [cl 20 UE [],mv 6 20]) (.ret)) (.skip))) (QF [1,2,7] (.reg [mv 21 0,cl 22 wj [21],mv 7 22]) (QF [7,8,9] (.reg [mv 23 1,xo 24 (.convI .i64 (.t 23)),bc 25 .rem 24 (V.int 4),xo 26 (.bin .add (.c (V.int 1)) (.t 25)),mv 27 2,xo 28 (.convI .i64 (.t 27)),bc 29 .rem 28 (V.int 4),xo 30 (.bin .add (.c (V.int 1)) (.t 29)),mv 8 26,mv 9 30]) (QF [7,8,9,10] (.reg [xo 31 (.build [(.string ⟨#[]⟩),(.string ⟨#[]⟩),(.string ⟨#[]⟩),(.int .i64 0)] [(0,1,(.c (V.str [119,101,98]))),(1,1,(.c (V.str [109,111,115,116]))),(2,1,(.c (V.str [57])))]),xo 32 (.build [(.string ⟨#[]⟩),(.string ⟨#[]⟩),(.string ⟨#[]⟩),(.int .i64 0)] [(0,1,(.c (V.str [100,98]))),(1,1,(.c (V.str [109,111,115,116]))),(2,1,(.c (V.str [120])))]),xo 33 (.build [(.string ⟨#[]⟩),(.string ⟨#[]⟩),(.string ⟨#[]⟩),(.int .i64 0)] [(0,1,(.c (V.str [119,101,98]))),(1,1,(.c (V.str [111,114,100,101,114]))),(2,1,(.c (V.str [111,119,110])))]),mv 34 9,xo 35 (.bin .add (.c (V.int 48)) (.t 34)),xo 36 (.convI .u8 (.t 35)),xo 37 (.bslice 1 1 false [(.int .u8 0)] [(0,(.t 36))]),xo 38 (.convBS (.t 37)),xo 39 (.build [(.string ⟨#[]⟩),(.string ⟨#[]⟩),(.string ⟨#[]⟩),(.int .i64 0)] [(0,1,(.c (V.str [119,101,98]))),(1,1,(.c (V.str [109,111,115,116]))),(2,1,(.t 38))]),xo 40 (.build [(.string ⟨#[]⟩),(.string ⟨#[]⟩),(.string ⟨#[]⟩),(.int .i64 0)] [(0,1,(.c (V.str [100,98]))),(1,1,(.c (V.str [122]))),(2,1,(.c (V.str [])))]),xo 41 (.bslice 5 4 true [(.string ⟨#[]⟩),(.string ⟨#[]⟩),(.string ⟨#[]⟩),(.int .i64 0)] [(0,(.t 31)),(1,(.t 32)),(2,(.t 33)),(3,(.t 39)),(4,(.t 40))]),mv 10 41]) (QF [8,9,10] (QF [8,9,10,43] (.reg [mv 42 7,xo 43 (.call U9 [(.t 42),(.c (V.int 2))])]) (.cond (.t 43) (.reg [mv 44 10,mv 45 8,xo 46 (.bin .add (.c (V.int 48)) (.t 45)),xo 47 (.convI .u8 (.t 46)),xo 48 (.bslice 1 1 false [(.int .u8 0)] [(0,(.t 47))]),xo 49 (.convBS (.t 48)),xo 50 (.build [(.string ⟨#[]⟩),(.string ⟨#[]⟩),(.string ⟨#[]⟩),(.int .i64 0)] [(0,1,(.c (V.str [119,101,98]))),(1,1,(.c (V.str [108,101,97,115,116]))),(2,1,(.t 49))]),xo 51 (.bslice 1 4 true [(.string ⟨#[]⟩),(.string ⟨#[]⟩),(.string ⟨#[]⟩),(.int .i64 0)] [(0,(.t 50))]),xo 52 (.append 4 56 [(.string ⟨#[]⟩),(.string ⟨#[]⟩),(.string ⟨#[]⟩),(.int .i64 0)] (.t 44) (.t 51)),mv 10 52]) (.reg [mc 8 (V.int 1)]))) (QF [8,9,11,12,13] (.reg [mv 54 10,xo 55 (.call JX [(.t 54),(.c (V.str [119,101,98])),(.c (.sc (.slice none 0 0)))]),mv 53 55,ex 56 53 0,ex 57 53 1,ex 58 53 2,xo 11 (.alloc [.val (.string ⟨#[]⟩),.val (.int .i64 0),.val (.int .i64 0),.nil 1,.val (.bool false),.nil 4,.nil 1,.nil 1,.val (.bool false)]),xs 9 11 56,mv 12 57,mv 13 58]) (QF [8,9,11,12,13,14] (.reg [xo 60 (.call jP [(.c (V.str [97,108,108]))]),mv 59 60,ex 61 59 0,ex 62 59 1,ex 63 59 2,mv 14 61,mv 15 62,mv 16 63]) (QF [8,9,11,12,13,14] (QF [8,9,11,12,13,14,66] (.reg [mv 64 8,mv 65 9,bn 66 .gtr 64 65]) (.cond (.t 66) (QF [6] (.reg [mv 67 13,bc 68 .eql 67 (V.int 19),mv 69 68,mg 70 12 69 true,xg 71 (.bin .eql (.t 70) (.c (V.int 0))) 69 true,xo 72 (.pick (.t 69) (.t 71) (.c (V.bool false))),mv 73 72,xg 74 (.call UE []) 73 true,xo 75 (.pick (.t 73) (.t 74) (.c (V.bool false))),mv 6 75]) (.ret)) (.skip))) (QF [6] (.reg [mv 76 13,bc 77 .eql 76 (V.int 0),mv 78 77,mg 79 12 78 true,xg 80 (.bin .eql (.t 79) (.c (V.int 0))) 78 true,xo 81 (.pick (.t 78) (.t 80) (.c (V.bool false))),mv 82 81,xg 83 (.faddr 1 (.t 11)) 82 true,xg 84 (.load false 1 (.t 83)) 82 true,mg 85 8 82 true,xg 86 (.bin .eql (.t 84) (.t 85)) 82 true,xo 87 (.pick (.t 82) (.t 86) (.c (V.bool false))),mv 88 87,xg 89 (.faddr 2 (.t 11)) 88 true,xg 90 (.load false 1 (.t 89)) 88 true,mg 91 9 88 true,xg 92 (.bin .eql (.t 90) (.t 91)) 88 true,xo 93 (.pick (.t 88) (.t 92) (.c (V.bool false))),mv 94 93,xg 95 (.faddr 4 (.t 11)) 94 true,xg 96 (.load false 1 (.t 95)) 94 true,xo 97 (.pick (.t 94) (.t 96) (.c (V.bool false))),mv 98 97,xg 99 (.faddr 8 (.t 11)) 98 true,xg 100 (.load false 1 (.t 99)) 98 true,xg 101 (.un .not (.t 100)) 98 true,xo 102 (.pick (.t 98) (.t 101) (.c (V.bool false))),mv 103 102,xg 104 (.faddr 3 (.t 11)) 103 true,xg 105 (.load false 1 (.t 104)) 103 true,xg 106 (.lenL (.t 105)) 103 true,mg 107 14 103 true,xg 108 (.lenL (.t 107)) 103 true,xg 109 (.bin .eql (.t 106) (.t 108)) 103 true,xo 110 (.pick (.t 103) (.t 109) (.c (V.bool false))),mv 111 110,xg 112 (.faddr 5 (.t 11)) 111 true,xg 113 (.load false 1 (.t 112)) 111 true,xg 114 (.lenL (.t 113)) 111 true,xg 115 (.faddr 6 (.t 11)) 111 true,xg 116 (.load false 1 (.t 115)) 111 true,xg 117 (.lenL (.t 116)) 111 true,xg 118 (.bin .add (.t 114) (.t 117)) 111 true,xg 119 (.faddr 7 (.t 11)) 111 true,xg 120 (.load false 1 (.t 119)) 111 true,xg 121 (.lenL (.t 120)) 111 true,xg 122 (.bin .add (.t 118) (.t 121)) 111 true,xg 123 (.bin .eql (.t 122) (.c (V.int 0))) 111 true,xo 124 (.pick (.t 111) (.t 123) (.c (V.bool false))),mv 125 124,xg 126 (.faddr 0 (.t 11)) 125 true,xg 127 (.load false 1 (.t 126)) 125 true,xg 128 (.call yP [(.t 127)]) 125 true,xo 129 (.pick (.t 125) (.t 128) (.c (V.bool false))),mv 130 129,xg 131 (.call UE []) 130 true,xo 132 (.pick (.t 130) (.t 131) (.c (V.bool false))),mv 6 132]) (.ret)))))))))) def r_law09_EndpointLast:List Y9:=[.tmp 6]
def jl (Γ:Env) (f:Nat):Prop:=∀ (l:List Int) (a b:Int) (h0:0≤a) (h1:a≤255) (h2:0≤b) (h3:b≤255),EvN Γ f [.sl 1 (l.map V.int),.sc (.int .u8 a),.sc (.int .u8 b)] (V.bool true)
theorem vr {Γ:Env} {f yS UE wj U9 JX jP yP:Nat} (h:Has Γ.P f 133 (UT yS UE wj U9 JX jP yP) r_law09_EndpointLast) (yK:wM Γ yS) (KR:xC Γ UE) (j5:vN Γ wj) (V0:qR Γ U9) (JW:X8 Γ JX) (KQ:xy Γ jP) (jg:wJ Γ yP):jl Γ f:=by
  intro l a b h0 h1 h2 h3
  refine Jb h (by simp) (by simp only [V.closed,Qw,V.noSl,JL,and_self,and_true,true_and]) (by simp only [V.closed,Qw,V.noSl,JL,and_self,and_true,true_and]) fun C hC hm=>?_
  subst hC
  unfold UT
  by_cases hlen:l.length≤400
  · have e0:decide ((l.length:Int)≤400) = true:=by simp;omega
    have hwa:IntKind.i64.wrap a = a:=Yq (by omega) (by omega)
    have hwb:IntKind.i64.wrap b = b:=Yq (by omega) (by omega)
    have hma:a.tmod 4 = a % 4:=Int.tmod_eq_emod_of_nonneg h0
    have hmb:b.tmod 4 = b % 4:=Int.tmod_eq_emod_of_nonneg h2
    obtain ⟨p,hp,hp1,hp2⟩:∃ p,p = 1 + a % 4∧1≤p∧p≤4:=⟨_,rfl,by omega,by omega⟩
    obtain ⟨q,hq,hq1,hq2⟩:∃ q,q = 1 + b % 4∧1≤q∧q≤4:=⟨_,rfl,by omega,by omega⟩
    have hwp:IntKind.i64.wrap (1 + a % 4) = p:=by rw [← hp];exact Yq (by omega) (by omega)
    have hwq:IntKind.i64.wrap (1 + b % 4) = q:=by rw [← hq];exact Yq (by omega) (by omega)
    have hwp2:IntKind.i64.wrap (48 + p) = 48 + p:=Yq (by omega) (by omega)
    have hwq2:IntKind.i64.wrap (48 + q) = 48 + q:=Yq (by omega) (by omega)
    obtain ⟨lb,hlb⟩:∃ lb,lb = UInt8.ofNat (48 + p).toNat:=⟨_,rfl⟩
    obtain ⟨hb,hhb⟩:∃ hb,hb = UInt8.ofNat (48 + q).toNat:=⟨_,rfl⟩
    have hlb2:(lb.toNat:Int) = 48 + p:=by rw [hlb,UInt8.toNat_ofNat'];omega
    have hhb2:(hb.toNat:Int) = 48 + q:=by rw [hhb,UInt8.toNat_ofNat'];omega
    have hwp3:IntKind.u8.wrap (48 + p) = (lb.toNat:Int):=by rw [hlb2];unfold IntKind.wrap;simp [IntKind.signed,IntKind.bits];omega
    have hwq3:IntKind.u8.wrap (48 + q) = (hb.toNat:Int):=by rw [hhb2];unfold IntKind.wrap;simp [IntKind.signed,IntKind.bits];omega
    have n1:=j5 l
    have n2:=V0 l 0 2 hlen (Nat.zero_le _) (by omega) (by omega)
    simp only [abr] at n1 n2
    have gp:=(KQ [97,108,108] (by decide)).b
    rw [ah4,jd] at gp
    have gn:=(jg [119,101,98] (by decide)).b
    have gw:yH [119,101,98] = true:=by decide
    rw [gw] at gn
    have aw:=(EvN.b KR)
    obtain ⟨v1,v2⟩:=am2 hp1 hp2
    obtain ⟨w1,w2⟩:=am2 hq1 hq2
    have hby:aeY (V.sc (Value.int .u8 (hb.toNat:Int))) = hb:=by simp [aeY]
    have hbl:aeY (V.sc (Value.int .u8 (lb.toNat:Int))) = lb:=by simp [aeY]
    rw [← hlb] at v1 v2
    rw [← hhb] at w1 w2
    have hb2:((vl l 0 2).1 == 2 - 1) = ((vl l 0 2).1 == 1):=rfl
    rw [hb2] at n2
    rcases hx:((vl l 0 2).1 == 1) with _|_
    · rw [hx] at n2
      have hf:=(JW (vm hb) [119,101,98] _ (by decide) (by decide +kernel) (by simp [vm]) (fun x hx=>aht (lb:=0) x (List.mem_append_left _ hx)) (fun x hx=>aeM (lb:=0) x (by rw [aco,List.filter_append];exact List.mem_append_left _ hx)) (by simp [aco,vm]) (aka w1 w2))
      have hle:(1:Int)≤q:=hq1
      rw [aiN,if_pos hle,aj3] at hf
      simp only [Jy.ep,Uq.v,Uq.cells,List.map_cons,List.map_nil,vm] at hf
      have c1:decide ((1:Int) > q) = false:=by simp;omega
      have c2:(q == q) = true:=by simp
      have c3:(p == p) = true:=by simp
      repeat' (first|refine Qp fun K' hK=>?_|refine Qt fun K' hK=>?_|refine Qq ?_|refine Qr ?_|refine Qa ?_|((first|refine Qs ⟨_,rfl,fun hc=>?_,fun hc=>?_⟩|refine QM (fun hc=>?_) (fun hc=>?_)|refine QN (fun hc=>?_) (fun hc=>?_))<;>first|(cases hc;done)|((try simp only [znz] at hc);first|exact znf|skip))|refine Qv ?_|refine Qu ?_|simp (maxSteps:=1000000) only [go_sem,e0,hwa,hwb,hma,hmb,hwp,hwq,hwp2,hwq2,hwp3,hwq3,hby,hbl,c1,c2,c3]|(refine hK _ ?_;clear hK K')|apply And.intro|(apply ahP;(focus first|exact hf))|(apply jk;(focus exact rfl);(focus first|exact n2|exact (V0 _ _ _ zsd zsd zsd zsd));(focus exact rfl);(focus exact rfl))|(apply yh;(focus first|exact n1|exact (j5 _)))|(apply QX;(focus first|exact gp|exact gn|exact aw|exact (yK _).b|exact EvN.b KR|exact (JW _ _ _ zsd zsd zsd zsd zsd zsd zsd zsd).b|exact (KQ _ zsd).b|exact (jg _ zsd).b))|exact zlo|omega|exact zms)
      all_goals first|(refine Je _ rfl ?_;simp only [go_sem];done)|exact ⟨[hb],rfl⟩|exact ⟨[lb],rfl⟩
    · rw [hx] at n2
      have hf:=(JW (vm hb++[⟨[119,101,98],[108,101,97,115,116],[lb],0⟩]) [119,101,98] _ (by decide) (by decide +kernel) (by simp [vm]) aht aeM (by simp [aco,vm]) (ai0 w1 w2 v1 v2))
      have c2:(q == q) = true:=by simp
      have c3:(p == p) = true:=by simp
      by_cases hle:p≤q
      · have c1:decide (p > q) = false:=by simp;omega
        rw [aiN,if_pos hle,aj3] at hf
        simp only [Jy.ep,Uq.v,Uq.cells,List.map_cons,List.map_nil,vm,List.cons_append,List.nil_append] at hf
        repeat' (first|refine Qp fun K' hK=>?_|refine Qt fun K' hK=>?_|refine Qq ?_|refine Qr ?_|refine Qa ?_|((first|refine Qs ⟨_,rfl,fun hc=>?_,fun hc=>?_⟩|refine QM (fun hc=>?_) (fun hc=>?_)|refine QN (fun hc=>?_) (fun hc=>?_))<;>first|(cases hc;done)|((try simp only [znz] at hc);first|exact znf|skip))|refine Qv ?_|refine Qu ?_|simp (maxSteps:=1000000) only [go_sem,e0,hwa,hwb,hma,hmb,hwp,hwq,hwp2,hwq2,hwp3,hwq3,hby,hbl,c1,c2,c3]|(refine hK _ ?_;clear hK K')|apply And.intro|(apply ahP;(focus first|exact hf))|(apply jk;(focus exact rfl);(focus first|exact n2|exact (V0 _ _ _ zsd zsd zsd zsd));(focus exact rfl);(focus exact rfl))|(apply yh;(focus first|exact n1|exact (j5 _)))|(apply QX;(focus first|exact gp|exact gn|exact aw|exact (yK _).b|exact EvN.b KR|exact (JW _ _ _ zsd zsd zsd zsd zsd zsd zsd zsd).b|exact (KQ _ zsd).b|exact (jg _ zsd).b))|exact zlo|omega|exact zms)
        all_goals first|(refine Je _ rfl ?_;simp only [go_sem];done)|exact ⟨[hb],rfl⟩|exact ⟨[lb],rfl⟩
      · have c1:decide (p > q) = true:=by simp;omega
        rw [aiN,if_neg hle] at hf
        simp only [Jy.ep,Uq.v,Uq.cells,List.map_cons,List.map_nil,vm,List.cons_append,List.nil_append] at hf
        repeat' (first|refine Qp fun K' hK=>?_|refine Qt fun K' hK=>?_|refine Qq ?_|refine Qr ?_|refine Qa ?_|((first|refine Qs ⟨_,rfl,fun hc=>?_,fun hc=>?_⟩|refine QM (fun hc=>?_) (fun hc=>?_)|refine QN (fun hc=>?_) (fun hc=>?_))<;>first|(cases hc;done)|((try simp only [znz] at hc);first|exact znf|skip))|refine Qv ?_|refine Qu ?_|simp (maxSteps:=1000000) only [go_sem,e0,hwa,hwb,hma,hmb,hwp,hwq,hwp2,hwq2,hwp3,hwq3,hby,hbl,c1,c2,c3]|(refine hK _ ?_;clear hK K')|apply And.intro|(apply ahP;(focus first|exact hf))|(apply jk;(focus exact rfl);(focus first|exact n2|exact (V0 _ _ _ zsd zsd zsd zsd));(focus exact rfl);(focus exact rfl))|(apply yh;(focus first|exact n1|exact (j5 _)))|(apply QX;(focus first|exact gp|exact gn|exact aw|exact (yK _).b|exact EvN.b KR|exact (JW _ _ _ zsd zsd zsd zsd zsd zsd zsd zsd).b|exact (KQ _ zsd).b|exact (jg _ zsd).b))|exact zlo|omega|exact zms)
        all_goals first|(refine Je _ rfl ?_;simp only [go_sem];done)|exact ⟨[hb],rfl⟩|exact ⟨[lb],rfl⟩
  · have e0:decide ((l.length:Int)≤400) = false:=by simp;omega
    repeat' (first|refine Qp fun K' hK=>?_|refine Qt fun K' hK=>?_|refine Qq ?_|refine Qr ?_|refine Qa ?_|((first|refine Qs ⟨_,rfl,fun hc=>?_,fun hc=>?_⟩|refine QM (fun hc=>?_) (fun hc=>?_)|refine QN (fun hc=>?_) (fun hc=>?_))<;>first|(cases hc;done)|((try simp only [znz] at hc);first|exact znf|skip))|refine Qv ?_|refine Qu ?_|simp (maxSteps:=1000000) only [go_sem,e0]|(refine hK _ ?_;clear hK K')|apply And.intro|(apply jk;(focus exact rfl);(focus first|exact (V0 _ _ _ zsd zsd zsd zsd));(focus exact rfl);(focus exact rfl))|(apply yh;(focus first|exact (j5 _)))|(apply QX;(focus first|exact (yK _).b|exact EvN.b KR|exact (JW _ _ _ zsd zsd zsd zsd zsd zsd zsd zsd).b|exact (KQ _ zsd).b|exact (jg _ zsd).b))|exact zlo|omega|exact zms)
    all_goals first|(refine Je _ rfl ?_;simp only [go_sem];done)
end Av
end
