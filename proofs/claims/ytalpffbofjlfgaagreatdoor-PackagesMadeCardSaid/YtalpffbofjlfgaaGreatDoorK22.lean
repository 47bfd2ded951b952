/- K22 -/
import Derived.Test.YtalpffbofjlfgaaGreatDoorK21
import Derived.Test.YtalpffbofjlfgaaGreatDoorK20
set_option linter.unusedVariables false
set_option linter.unusedSimpArgs false
section
set_option linter.unusedSimpArgs false
set_option linter.unusedVariables false
set_option maxRecDepth 10000
set_option maxHeartbeats 4000000
namespace Av
open Go
attribute [local irreducible] AWp WY Vp Vq awS awC V1 awQ Uh Q9 YQ VZ awR YT awB okR Ww ris
def YZ:List Qu→Bool
  | a :: b :: r=>!(Op.bytesLess a.name b.name) || YZ (b :: r)
  | _=>false
def aew (p:Qu):Bool:=decide ((p.needs.length:Int) > 8)
def akX (x:Qu):Bool:=!Xs x.name || x.needs.any fun n=>!Xs n.name
def ajn (x:Qu):Bool:=!UL x.ver || x.needs.any fun n=>!Wt n.lo n.up
def Y8 (l:List Qu):Int :=
  if (decide ((l.length:Int) > 64) || l.any aew) = true then 3 else if l.any akX = true then 14 else if l.any ajn = true then 22 else if YZ l = true then 6 else 0
theorem aat {l:List Qu} (h:l.length≤1):YZ l = false:=by
  match l,h with
  | [],_=>rfl
  | [_],_=>rfl
def qg:List AO:=[mv 25 4,bc 26 .gtr 25 (V.int 0),mv 27 26,mg 28 0 27 true,mg 29 4 27 true,xg 30 (.bin .sub (.t 29) (.c (V.int 1))) 27 true,xg 31 (.iaddr 3 (.t 28) (.t 30)) 27 true,xg 32 (.faddr 0 (.t 31)) 27 true,xg 33 (.load false 1 (.t 32)) 27 true,mg 34 0 27 true,mg 35 4 27 true,xg 36 (.iaddr 3 (.t 34) (.t 35)) 27 true,xg 37 (.faddr 0 (.t 36)) 27 true,xg 38 (.load false 1 (.t 37)) 27 true,xg 39 (.bin .geq (.t 33) (.t 38)) 27 true,xo 40 (.pick (.t 27) (.t 39) (.c (V.bool false)))]
def qF:List (List Nat):=[[],[0],[1],[2],[2],[4,2],[3,5,2],[6,2],[7,2],[2],[2],[9,10,2],[11,2],[12,2],[8,13,2],[2,14]]
def qd:OT:=.one 0 (.one 1 (.one 2 (.one 3 (.one 4 (.one 5 (.one 6 (.one 7 (.one 8 (.one 9 (.one 10 (.one 11 (.one 12 (.one 13 (.one 14 (.one 15 (.done))))))))))))))))
def Ys:OP:=.one 0 false [] (mv 25 4) (.one 1 false [] (bc 26 .gtr 25 (V.int 0)) (.one 2 false [] (mv 27 26) (.one 3 false [] (mg 28 0 27 true) (.one 4 false [] (mg 29 4 27 true) (.one 5 false [] (xg 30 (.bin .sub (.t 29) (.c (V.int 1))) 27 true) (.one 6 false [] (xg 31 (.iaddr 3 (.t 28) (.t 30)) 27 true) (.one 7 false [] (xg 32 (.faddr 0 (.t 31)) 27 true) (.one 8 false [] (xg 33 (.load false 1 (.t 32)) 27 true) (.one 9 false [] (mg 34 0 27 true) (.one 10 false [] (mg 35 4 27 true) (.one 11 false [] (xg 36 (.iaddr 3 (.t 34) (.t 35)) 27 true) (.one 12 false [] (xg 37 (.faddr 0 (.t 36)) 27 true) (.one 13 false [] (xg 38 (.load false 1 (.t 37)) 27 true) (.one 14 false [] (xg 39 (.bin .geq (.t 33) (.t 38)) 27 true) (.one 15 false [] (xo 40 (.pick (.t 27) (.t 39) (.c (V.bool false)))) (.done))))))))))))))))
theorem Jz:okR (qg) qF [] qd = true:=by kernel_rfl
theorem Jy:Ww (ris (qg) qF []) qd = Ys:=by kernel_rfl def c_packages_Check (VC QY Kq VB VA Vz Vy:Nat):AC:=Qo [0] (.reg [mc 2 (V.int 0)]) (Qo [0,3] (.reg [mc 3 (.clo VC [])]) (Qo [0] (.block 0 (Qo [0,5] (.reg [mv 6 0,ln 7 6,bc 8 .gtr 7 (V.int 64),mv 9 8,mg 10 0 9 false,mg 11 3 9 false,xg 12 (.call QY [(.t 10),(.t 11)]) 9 false,xo 13 (.pick (.t 9) (.c (V.bool true)) (.t 12)),mv 5 13]) (.cond (.t 5) (Qo [2] (.reg [mc 2 (V.int 3)]) (.ret)) (Qo [0,14] (.reg [mv 15 0,xo 16 (.call Kq [(.t 15),(.c (.clo VB [])),(.c (.clo VA []))]),mv 14 16]) (.cond (.t 14) (Qo [2] (.reg [mc 2 (V.int 14)]) (.ret)) (Qo [0,17] (.reg [mv 18 0,xo 19 (.call Kq [(.t 18),(.c (.clo Vz [])),(.c (.clo Vy []))]),mv 17 19]) (.cond (.t 17) (Qo [2] (.reg [mc 2 (V.int 22)]) (.ret)) (.skip)))))))) (Qo [] (Qo [0,21,22] (.reg [mv 20 0,ln 21 20,mc 22 (V.int 0)]) (.block 1 (X1 [0,21,22] (Qo [0,21,22,23] (.reg [bn 23 .lss 22 21]) (Qo [0,21,22] (.cond (.t 23) (.skip) (.exit 1)) (Qo [0,21,22] (.block 2 (Qo [0,4,21,22] (.reg [mv 24 22,mv 4 24]) (Qo [0,21,22,40] (ach [] qd (Ys) (qg) qF) (.cond (.t 40) (Qo [2] (.reg [mc 2 (V.int 6)]) (.ret)) (.skip))))) (.reg [bc 41 .add 22 (V.int 1),mv 22 41]))))))) (Qo [2] (.reg [mc 2 (V.int 0)]) (.ret))))) def r_packages_Check:List X0:=[.tmp 2]
def VW (Γ:Env) (f:Nat):Prop:=∀ (l:List Qu) (hl:PSz l),EvN Γ f [.sl 3 (l.map Qu.v)] (V.int (Y8 l))
theorem ac1 {Γ:Env} {f VC QY Kq VB VA Vz Vy:Nat} (h:Has Γ.P f 42 (c_packages_Check VC QY Kq VB VA Vz Vy) r_packages_Check) (YJ:K5 Γ VC) (Qw:JT Γ QY) (XD:yW Γ Kq) (YI:K0 Γ VB) (YH:KZ Γ VA) (YG:KY Γ Vz) (YF:KX Γ Vy):VW Γ f:=by
  intro l hl
  refine QQ h (by simp) (by simp only [V.closed,Qn,V.noSl,Jx,and_self,and_true,true_and]) (by simp only [V.closed,Qn,V.noSl,Jx,and_self,and_true,true_and]) fun C hC hm=>?_
  subst hC
  unfold c_packages_Check
  have g1:=(Qw l VC [] aew (fun x _=>YJ x) trivial hl.1).b
  have g2:=(XD l VB [] VA [] (fun p=>!Xs p.name) (fun n=>!Xs n.name) (fun x hx=>YI x (hl.2 x hx).1) (fun x hx y hy=>YH y ((hl.2 x hx).2.2.2 y hy).1) trivial trivial hl).b
  have g3:=(XD l Vz [] Vy [] (fun p=>!UL p.ver) (fun n=>!Wt n.lo n.up) (fun x hx=>YG x (hl.2 x hx).2.1) (fun x hx y hy=>YF y ((hl.2 x hx).2.2.2 y hy).2.1 ((hl.2 x hx).2.2.2 y hy).2.2) trivial trivial hl).b
  have d2:(l.any fun x=>!Xs x.name || x.needs.any fun n=>!Xs n.name) = l.any akX:=rfl
  have d3:(l.any fun x=>!UL x.ver || x.needs.any fun n=>!Wt n.lo n.up) = l.any ajn:=rfl
  rw [d2] at g2
  rw [d3] at g3
  have hlen:=hl.1
  unfold Y8
  rcases e0:decide ((l.length:Int) > 64) with _|_
  · have e0':decide ((((l.map Qu.v).length:Nat):Int) > 64) = false:=by rw [List.length_map];exact e0
    rcases e1:l.any aew with _|_
    · rw [e1] at g1
      rcases e2:l.any akX with _|_
      · rw [e2] at g2
        rcases e3:l.any ajn with _|_
        · rw [e3] at g3
          simp only [Bool.or_self,Bool.false_eq_true,if_false]
          repeat' (first|refine Qb fun K' hK=>?_|refine Qe fun K' hK=>?_|refine Ql 16 (fun _=>true) rfl (Jz) (Jy) fun K' hK=>?_|refine Qm 16 (fun _=>true) rfl (Jz) (Jy) fun K' hK=>?_|refine Qc ?_|refine Qd ?_|refine Qa ?_|((first|refine Qg ⟨_,rfl,fun hc=>?_,fun hc=>?_⟩|refine Qs (fun hc=>?_) (fun hc=>?_)|refine Qt (fun hc=>?_) (fun hc=>?_))<;>first|(cases hc;done)|((try simp only [znz] at hc);first|exact znf|skip))|refine Qi ?_|refine Qf ?_|simp (maxSteps:=1000000) only [go_sem,e0',Ys]|(refine hK _ ?_;clear hK K')|apply And.intro|((first|apply Qv|apply Jm);(focus first|exact g1|exact g2|exact g3|exact (YJ _).b|exact (Qw _ _ _ _ zsd zsd zsd).b|exact (XD _ _ _ _ _ _ _ zsd zsd zsd zsd zsd).b|exact (YI _ zsd).b|exact (YH _ zsd).b|exact (YG _ zsd).b|exact (YF _ zsd zsd).b))|exact zlo|omega|exact zms)
          refine Xf (ι:=Nat) (fun k=>k≤l.length∧YZ (l.drop (k - 1)) = YZ l) (fun k=>[(22,V.int k)]) (fun k=>l.length - k) 0 (by omega) ⟨by simp,by simp⟩ (by repeat' first|exact We|refine Vk (by omega) (by simp only [Ob.lt,ltL,V.lt,and_self,and_true];try omega) ?_) (fun i hi=>by simp only [ovT,J5,Nat.reduceEqDiff,reduceIte];(repeat' first|exact Vj|refine Wd ?_ ?_|simp only [V.lt,ltL,and_self,and_true]|omega)) (by simp only [Nat.reduceAdd,ovT,J5,Nat.reduceEqDiff,reduceIte,JA,JW,qV,u32,u33,u34,u35,u36,u37,u38,u39,and_self,and_true,true_and];first|done|rfl) fun k hk K' hL=>?_
          obtain ⟨hk,hinv⟩:=hk
          simp only [ovT,J5,Nat.reduceEqDiff,reduceIte]
          by_cases hkl:k < l.length
          · have c1:decide ((k:Int) < (((l.map Qu.v).length:Nat):Int)) = true:=by simp;omega
            have hw:=Jq (k:=k) (by omega)
            rcases k with _|j
            · repeat' (first|refine Qb fun K' hK=>?_|refine Qe fun K' hK=>?_|refine Ql 16 (fun _=>true) rfl (Jz) (Jy) fun K' hK=>?_|refine Qm 16 (fun _=>true) rfl (Jz) (Jy) fun K' hK=>?_|refine Qc ?_|refine Qd ?_|refine Qa ?_|((first|refine Qg ⟨_,rfl,fun hc=>?_,fun hc=>?_⟩|refine Qs (fun hc=>?_) (fun hc=>?_)|refine Qt (fun hc=>?_) (fun hc=>?_))<;>first|(cases hc;done)|((try simp only [znz] at hc);first|exact znf|skip))|refine Qi ?_|refine Qf ?_|simp (maxSteps:=1000000) only [go_sem,c1,hw,Ys]|(refine hK _ ?_;clear hK K')|apply And.intro|((first|apply Qv|apply Jm);(focus first|exact (YJ _).b|exact (Qw _ _ _ _ zsd zsd zsd).b|exact (XD _ _ _ _ _ _ _ zsd zsd zsd zsd zsd).b|exact (YI _ zsd).b|exact (YH _ zsd).b|exact (YG _ zsd).b|exact (YF _ zsd zsd).b))|exact zlo|omega|exact zms)
              all_goals first|exact hL _ 1 (by simp only [Nat.reduceAdd,ovT,J5,Nat.reduceEqDiff,reduceIte,JA,JW,qV,u32,u33,u34,u35,u36,u37,u38,u39,and_self,and_true,true_and];first|done|rfl) ⟨by omega,by simp⟩ (by omega) (fun a ha=>by simp only [u32,u33,u34,u35,u36,u37,u38,u39];repeat rw [if_neg (by omega)])
            · have hj:(l.drop j) = l[j] :: l[j + 1] :: l.drop (j + 2):=by rw [List.drop_eq_getElem_cons (by omega),List.drop_eq_getElem_cons (by omega)]
              have hga:l[j]? = some l[j]:=List.getElem?_eq_getElem (by omega)
              have hgb:l[j + 1]? = some l[j + 1]:=List.getElem?_eq_getElem (by omega)
              have hdd:l.drop (j + 1) = l[j + 1] :: l.drop (j + 2):=by rw [List.drop_eq_getElem_cons (by omega)]
              rw [Nat.add_sub_cancel,hj,YZ,← hdd] at hinv
              have c2:decide (((j + 1:Nat):Int) > 0) = true:=decide_eq_true (by omega)
              have hw2:IntKind.i64.wrap (((j + 1:Nat):Int) - 1) = (j:Int):=by rw [WW (by omega) (by omega)];omega
              generalize l[j] = a at *
              generalize l[j + 1] = b at *
              rcases hb:Op.bytesLess a.name b.name with _|_
              · rw [hb] at hinv
                have:YZ l = true:=by rw [← hinv];rfl
                rw [this]
                repeat' (first|refine Qb fun K' hK=>?_|refine Qe fun K' hK=>?_|refine Ql 16 (fun _=>true) rfl (Jz) (Jy) fun K' hK=>?_|refine Qm 16 (fun _=>true) rfl (Jz) (Jy) fun K' hK=>?_|refine Qc ?_|refine Qd ?_|refine Qa ?_|((first|refine Qg ⟨_,rfl,fun hc=>?_,fun hc=>?_⟩|refine Qs (fun hc=>?_) (fun hc=>?_)|refine Qt (fun hc=>?_) (fun hc=>?_))<;>first|(cases hc;done)|((try simp only [znz] at hc);first|exact znf|skip))|refine Qi ?_|refine Qf ?_|simp (maxSteps:=1000000) only [go_sem,c1,c2,hw,hw2,hga,hgb,hb,Int.toNat_natCast,List.getElem?_map,Qu.v,Qu.cells,Ys]|(refine hK _ ?_;clear hK K')|apply And.intro|((first|apply Qv|apply Jm);(focus first|exact (YJ _).b|exact (Qw _ _ _ _ zsd zsd zsd).b|exact (XD _ _ _ _ _ _ _ zsd zsd zsd zsd zsd).b|exact (YI _ zsd).b|exact (YH _ zsd).b|exact (YG _ zsd).b|exact (YF _ zsd zsd).b))|exact zlo|omega|exact zms)
                all_goals first|(refine QM _ rfl ?_;simp only [go_sem];done)
              · rw [hb] at hinv
                repeat' (first|refine Qb fun K' hK=>?_|refine Qe fun K' hK=>?_|refine Ql 16 (fun _=>true) rfl (Jz) (Jy) fun K' hK=>?_|refine Qm 16 (fun _=>true) rfl (Jz) (Jy) fun K' hK=>?_|refine Qc ?_|refine Qd ?_|refine Qa ?_|((first|refine Qg ⟨_,rfl,fun hc=>?_,fun hc=>?_⟩|refine Qs (fun hc=>?_) (fun hc=>?_)|refine Qt (fun hc=>?_) (fun hc=>?_))<;>first|(cases hc;done)|((try simp only [znz] at hc);first|exact znf|skip))|refine Qi ?_|refine Qf ?_|simp (maxSteps:=1000000) only [go_sem,c1,c2,hw,hw2,hga,hgb,hb,Int.toNat_natCast,List.getElem?_map,Qu.v,Qu.cells,Ys]|(refine hK _ ?_;clear hK K')|apply And.intro|((first|apply Qv|apply Jm);(focus first|exact (YJ _).b|exact (Qw _ _ _ _ zsd zsd zsd).b|exact (XD _ _ _ _ _ _ _ zsd zsd zsd zsd zsd).b|exact (YI _ zsd).b|exact (YH _ zsd).b|exact (YG _ zsd).b|exact (YF _ zsd zsd).b))|exact zlo|omega|exact zms)
                all_goals first|exact hL _ (j + 1 + 1) (by simp only [Nat.reduceAdd,ovT,J5,Nat.reduceEqDiff,reduceIte,JA,JW,qV,u32,u33,u34,u35,u36,u37,u38,u39,and_self,and_true,true_and]) ⟨by omega,by simpa using hinv⟩ (by omega) (fun a ha=>by simp only [u32,u33,u34,u35,u36,u37,u38,u39];repeat rw [if_neg (by omega)])
          · have c1:decide ((k:Int) < (((l.map Qu.v).length:Nat):Int)) = false:=by simp;omega
            rw [aat (by simp;omega)] at hinv
            rw [← hinv]
            repeat' (first|refine Qb fun K' hK=>?_|refine Qe fun K' hK=>?_|refine Ql 16 (fun _=>true) rfl (Jz) (Jy) fun K' hK=>?_|refine Qm 16 (fun _=>true) rfl (Jz) (Jy) fun K' hK=>?_|refine Qc ?_|refine Qd ?_|refine Qa ?_|((first|refine Qg ⟨_,rfl,fun hc=>?_,fun hc=>?_⟩|refine Qs (fun hc=>?_) (fun hc=>?_)|refine Qt (fun hc=>?_) (fun hc=>?_))<;>first|(cases hc;done)|((try simp only [znz] at hc);first|exact znf|skip))|refine Qi ?_|refine Qf ?_|simp (maxSteps:=1000000) only [go_sem,c1,Ys]|(refine hK _ ?_;clear hK K')|apply And.intro|((first|apply Qv|apply Jm);(focus first|exact (YJ _).b|exact (Qw _ _ _ _ zsd zsd zsd).b|exact (XD _ _ _ _ _ _ _ zsd zsd zsd zsd zsd).b|exact (YI _ zsd).b|exact (YH _ zsd).b|exact (YG _ zsd).b|exact (YF _ zsd zsd).b))|exact zlo|omega|exact zms)
            all_goals first|(refine QM _ rfl ?_;simp only [go_sem];done)
        · rw [e3] at g3
          repeat' (first|refine Qb fun K' hK=>?_|refine Qe fun K' hK=>?_|refine Ql 16 (fun _=>true) rfl (Jz) (Jy) fun K' hK=>?_|refine Qm 16 (fun _=>true) rfl (Jz) (Jy) fun K' hK=>?_|refine Qc ?_|refine Qd ?_|refine Qa ?_|((first|refine Qg ⟨_,rfl,fun hc=>?_,fun hc=>?_⟩|refine Qs (fun hc=>?_) (fun hc=>?_)|refine Qt (fun hc=>?_) (fun hc=>?_))<;>first|(cases hc;done)|((try simp only [znz] at hc);first|exact znf|skip))|refine Qi ?_|refine Qf ?_|simp (maxSteps:=1000000) only [go_sem,e0',Ys]|(refine hK _ ?_;clear hK K')|apply And.intro|((first|apply Qv|apply Jm);(focus first|exact g1|exact g2|exact g3|exact (YJ _).b|exact (Qw _ _ _ _ zsd zsd zsd).b|exact (XD _ _ _ _ _ _ _ zsd zsd zsd zsd zsd).b|exact (YI _ zsd).b|exact (YH _ zsd).b|exact (YG _ zsd).b|exact (YF _ zsd zsd).b))|exact zlo|omega|exact zms)
          all_goals first|(refine QM _ rfl ?_;simp only [go_sem];done)
      · rw [e2] at g2
        repeat' (first|refine Qb fun K' hK=>?_|refine Qe fun K' hK=>?_|refine Ql 16 (fun _=>true) rfl (Jz) (Jy) fun K' hK=>?_|refine Qm 16 (fun _=>true) rfl (Jz) (Jy) fun K' hK=>?_|refine Qc ?_|refine Qd ?_|refine Qa ?_|((first|refine Qg ⟨_,rfl,fun hc=>?_,fun hc=>?_⟩|refine Qs (fun hc=>?_) (fun hc=>?_)|refine Qt (fun hc=>?_) (fun hc=>?_))<;>first|(cases hc;done)|((try simp only [znz] at hc);first|exact znf|skip))|refine Qi ?_|refine Qf ?_|simp (maxSteps:=1000000) only [go_sem,e0',Ys]|(refine hK _ ?_;clear hK K')|apply And.intro|((first|apply Qv|apply Jm);(focus first|exact g1|exact g2|exact (YJ _).b|exact (Qw _ _ _ _ zsd zsd zsd).b|exact (XD _ _ _ _ _ _ _ zsd zsd zsd zsd zsd).b|exact (YI _ zsd).b|exact (YH _ zsd).b|exact (YG _ zsd).b|exact (YF _ zsd zsd).b))|exact zlo|omega|exact zms)
        all_goals first|(refine QM _ rfl ?_;simp only [go_sem];done)
    · rw [e1] at g1
      repeat' (first|refine Qb fun K' hK=>?_|refine Qe fun K' hK=>?_|refine Ql 16 (fun _=>true) rfl (Jz) (Jy) fun K' hK=>?_|refine Qm 16 (fun _=>true) rfl (Jz) (Jy) fun K' hK=>?_|refine Qc ?_|refine Qd ?_|refine Qa ?_|((first|refine Qg ⟨_,rfl,fun hc=>?_,fun hc=>?_⟩|refine Qs (fun hc=>?_) (fun hc=>?_)|refine Qt (fun hc=>?_) (fun hc=>?_))<;>first|(cases hc;done)|((try simp only [znz] at hc);first|exact znf|skip))|refine Qi ?_|refine Qf ?_|simp (maxSteps:=1000000) only [go_sem,e0',Ys]|(refine hK _ ?_;clear hK K')|apply And.intro|((first|apply Qv|apply Jm);(focus first|exact g1|exact (YJ _).b|exact (Qw _ _ _ _ zsd zsd zsd).b|exact (XD _ _ _ _ _ _ _ zsd zsd zsd zsd zsd).b|exact (YI _ zsd).b|exact (YH _ zsd).b|exact (YG _ zsd).b|exact (YF _ zsd zsd).b))|exact zlo|omega|exact zms)
      all_goals first|(refine QM _ rfl ?_;simp only [go_sem];done)
  · have e0':decide ((((l.map Qu.v).length:Nat):Int) > 64) = true:=by rw [List.length_map];exact e0
    repeat' (first|refine Qb fun K' hK=>?_|refine Qe fun K' hK=>?_|refine Ql 16 (fun _=>true) rfl (Jz) (Jy) fun K' hK=>?_|refine Qm 16 (fun _=>true) rfl (Jz) (Jy) fun K' hK=>?_|refine Qc ?_|refine Qd ?_|refine Qa ?_|((first|refine Qg ⟨_,rfl,fun hc=>?_,fun hc=>?_⟩|refine Qs (fun hc=>?_) (fun hc=>?_)|refine Qt (fun hc=>?_) (fun hc=>?_))<;>first|(cases hc;done)|((try simp only [znz] at hc);first|exact znf|skip))|refine Qi ?_|refine Qf ?_|simp (maxSteps:=1000000) only [go_sem,e0',Ys]|(refine hK _ ?_;clear hK K')|apply And.intro|((first|apply Qv|apply Jm);(focus first|exact (YJ _).b|exact (Qw _ _ _ _ zsd zsd zsd).b|exact (XD _ _ _ _ _ _ _ zsd zsd zsd zsd zsd).b|exact (YI _ zsd).b|exact (YH _ zsd).b|exact (YG _ zsd).b|exact (YF _ zsd zsd).b))|exact zlo|omega|exact zms)
    all_goals first|(refine QM _ rfl ?_;simp only [go_sem];done)
end Av
end
section
set_option linter.unusedSimpArgs false
set_option linter.unusedVariables false
set_option maxRecDepth 10000
set_option maxHeartbeats 4000000
namespace Av
open Go
attribute [local irreducible] AWp WY Vp Vq awS awC V1 awQ Uh Q9 YQ VZ awR YT awB okR Ww ris
def yf (l:List Qu) (p:Qu):Bool:=p.needs.any fun n=>decide (KN l n < 0)
def aos (l:List Qu):List (List UInt8):=(l.filter (yf l)).map Qu.name
def ahk (l:List Qu):V:=if Y8 l = 0 then .tup [.sl 1 ((aos l).map V.str),V.int 0] else .tup [.sl 1 [],V.int (Y8 l)]
theorem adm (l:List Qu):(ahk l).closed:=by unfold ahk;split<;>simp only [V.closed,Qn,and_self]
def qv (Ye W3 Q7:Nat):AC:=Qo [1] (.reg [xo 1 (.box false 1 (.t 0)),xo 2 (.mknil 1),mc 3 (V.int 0)]) (Qo [1] (Qo [1,4] (.reg [ld 8 1 1,cl 9 Ye [8],mv 4 9]) (Qo [1,4,11] (.reg [mv 10 4,bc 11 .neq 10 (V.int 0)]) (.cond (.t 11) (Qo [2,3] (.reg [mv 12 4,xo 2 (.mknil 1),mv 3 12]) (.ret)) (.skip)))) (Qo [1,5] (.reg [xo 5 (.mknil 1)]) (Qo [5] (Qo [1,5,13,14,15] (.reg [ld 13 1 1,ln 14 13,mc 15 (V.int 0)]) (.block 0 (X1 [1,5,13,14,15] (Qo [1,5,13,14,15,16] (.reg [bn 16 .lss 15 14]) (Qo [1,5,13,14,15] (.cond (.t 16) (.skip) (.exit 0)) (Qo [1,5,13,14,15] (.block 1 (Qo [1,5,7,13,14,15] (.reg [ia 17 3 13 15,xo 18 (.load true 3 (.t 17)),xo 7 (.alloc [.val (.string ⟨#[]⟩),.nil 1,.nil 3]),xs 3 7 18]) (Qo [1,5,7,13,14,15,22] (.reg [fa 19 2 7,ld 20 1 19,xo 21 (.mkfn W3 [(.t 1)]),cl 22 Q7 [20,21]]) (.cond (.t 22) (.reg [mv 23 5,fa 24 0 7,ld 25 1 24,xo 26 (.bslice 1 1 false [(.string ⟨#[]⟩)] [(0,(.t 25))]),xo 27 (.append 1 16 [(.string ⟨#[]⟩)] (.t 23) (.t 26)),mv 5 27]) (.skip))))) (.reg [bc 28 .add 15 (V.int 1),mv 15 28]))))))) (Qo [2,3] (.reg [mv 29 5,mv 2 29,mc 3 (V.int 0)]) (.ret))))) def r_packages_Missing:List X0:=[.tmp 2,.tmp 3]
def KW (Γ:Env) (f:Nat):Prop:=∀ (l:List Qu) (hl:PSz l),EvC Γ f [.sl 3 (l.map Qu.v)] (ahk l)
theorem aa2 {Γ:Env} {f Ye W3 Q7:Nat} (h:Has Γ.P f 30 (qv Ye W3 Q7) r_packages_Missing) (JO:VW Γ Ye) (Wp:UZ Γ W3) (Q0:Yf Γ Q7):KW Γ f:=by
  intro l hl
  refine W1 h (by simp) (adm _) fun C hC hm=>?_
  subst hC
  unfold qv
  have gc:=(JO l hl).b
  have hlen:=hl.1
  unfold ahk
  by_cases hc0:Y8 l = 0
  · have h64:l.length≤64:=by
      rcases Nat.lt_or_ge 64 l.length with h|h
      · have e:decide ((l.length:Int) > 64) = true:=decide_eq_true (by omega)
        rw [Y8,e,Bool.true_or,if_pos rfl] at hc0
        exact absurd hc0 (by decide)
      · exact h
    rw [hc0] at gc
    rw [if_pos hc0]
    repeat' (first|refine Qb fun K' hK=>?_|refine Qe fun K' hK=>?_|refine Qc ?_|refine Qd ?_|refine Qa ?_|((first|refine Qg ⟨_,rfl,fun hc=>?_,fun hc=>?_⟩|refine Qs (fun hc=>?_) (fun hc=>?_)|refine Qt (fun hc=>?_) (fun hc=>?_))<;>first|(cases hc;done)|((try simp only [znz] at hc);first|exact znf|skip))|refine Qi ?_|refine Qf ?_|simp (maxSteps:=1000000) only [go_sem]|(refine hK _ ?_;clear hK K')|apply And.intro|(apply Qv;(focus first|exact gc|exact (JO _ zsd).b|exact (Wp _ _ zsd zsd).b|exact (Q0 _ _ _ _ zsd zsd zsd).b))|exact zlo|omega|exact zms)
    refine JR (ι:=Nat) (fun k=>k≤l.length) (fun k=>Xy [(1,.ptr 0 0),(5,.hd 1 0 (((l.take k).filter (yf l)).map Qu.name).length),(13,.sl 3 (l.map Qu.v)),(14,V.int (l.map Qu.v).length),(15,V.int k)] [(0,.box true [.sl 3 (l.map Qu.v)]),(1,.buf true 1 ((((l.take k).filter (yf l)).map Qu.name).map V.str))] 2) (fun k=>l.length - k) 0 (by omega) (QO [(1,8000)]) (JE [(1,8000)] (by simp only [go_sem,and_true,true_and,implies_true,Option.some.injEq,exists_eq_left',Qh,Qj];(repeat' (first|rfl|apply And.intro|omega|exact fun h=>h|exact Exists.intro _ rfl))) (by simp only [go_sem,and_true,true_and,implies_true,Option.some.injEq,exists_eq_left',Qh,Qj];(repeat' (first|rfl|apply And.intro|omega|exact fun h=>h|exact Exists.intro _ rfl))) (by simp [QO]) (by simp;omega) (by omega)) fun k hk K' hL=>?_
    rcases hd:l.drop k with _|⟨p,r⟩
    · have hkl:=Xx hd
      have e1:decide ((k:Int) < (((l.map Qu.v).length:Nat):Int)) = false:=by simp;omega
      have e3:l.take k = l:=List.take_of_length_le hkl
      rw [e3]
      repeat' (first|refine Qb fun K' hK=>?_|refine Qe fun K' hK=>?_|refine Qc ?_|refine Qd ?_|refine Qa ?_|((first|refine Qg ⟨_,rfl,fun hc=>?_,fun hc=>?_⟩|refine Qs (fun hc=>?_) (fun hc=>?_)|refine Qt (fun hc=>?_) (fun hc=>?_))<;>first|(cases hc;done)|((try simp only [znz] at hc);first|exact znf|skip))|refine Qi ?_|refine Qf ?_|simp (maxSteps:=1000000) only [go_sem,Xy,e1,VF]|(refine hK _ ?_;clear hK K')|apply And.intro|(apply Qv;(focus first|exact (JO _ zsd).b|exact (Wp _ _ zsd zsd).b|exact (Q0 _ _ _ _ zsd zsd zsd).b))|exact zlo|omega|exact zms)
      all_goals first|(refine QM _ rfl ?_;simp only [go_sem];rw [VF];first|done|rfl|exact ⟨_,_,rfl⟩)
    · obtain ⟨hk',hget,hr⟩:=Yy hd
      have hw:=Jq (k:=k) (by omega)
      have e1:decide ((k:Int) < (((l.map Qu.v).length:Nat):Int)) = true:=by simp;omega
      have hp:=hl.2 p (List.mem_of_getElem? hget)
      have g1:=(Q0 p.needs W3 [.ro [.sl 3 (l.map Qu.v)] 0] (fun n=>decide (KN l n < 0)) (fun n hn=>Wp n l hl (hp.2.2.2 n hn)) (by simp [Qn,V.closed]) hp.2.2.1).b
      have d1:(p.needs.any fun n=>decide (KN l n < 0)) = yf l p:=rfl
      rw [d1] at g1
      have hnl:(((l.take k).filter (yf l)).map Qu.name).length≤k:=by
        rw [List.length_map]
        exact Nat.le_trans (List.length_filter_le _ _) (by simp;omega)
      have htk:(l.take (k + 1)).filter (yf l) = (l.take k).filter (yf l)++(if yf l p = true then [p] else []):=by
        rw [List.take_add_one,hget,List.filter_append];simp only [Option.toList,List.filter_cons,List.filter_nil]
      rcases hb:yf l p with _|_
      · rw [hb] at g1 htk
        simp only [Bool.false_eq_true,if_false,List.append_nil] at htk
        repeat' (first|refine Qb fun K' hK=>?_|refine Qe fun K' hK=>?_|refine Qc ?_|refine Qd ?_|refine Qa ?_|((first|refine Qg ⟨_,rfl,fun hc=>?_,fun hc=>?_⟩|refine Qs (fun hc=>?_) (fun hc=>?_)|refine Qt (fun hc=>?_) (fun hc=>?_))<;>first|(cases hc;done)|((try simp only [znz] at hc);first|exact znf|skip))|refine Qi ?_|refine Qf ?_|simp (maxSteps:=1000000) only [go_sem,Xy,e1,hw,Int.toNat_natCast,List.getElem?_map,hget,Qu.v,Qu.cells]|(refine hK _ ?_;clear hK K')|apply And.intro|(apply Qv;(focus first|exact g1|exact (JO _ zsd).b|exact (Wp _ _ zsd zsd).b|exact (Q0 _ _ _ _ zsd zsd zsd).b))|exact zlo|omega|exact zms)
        refine hL _ (k + 1) (QO []) (by omega) (by omega) ?_
        rw [htk]
        exact JE [] (by simp only [go_sem,and_true,true_and,implies_true,Option.some.injEq,exists_eq_left',Qh,Qj];(repeat' (first|rfl|apply And.intro|omega|exact fun h=>h|exact Exists.intro _ rfl))) (by simp only [go_sem,and_true,true_and,implies_true,Option.some.injEq,exists_eq_left',Qh,Qj];(repeat' (first|rfl|apply And.intro|omega|exact fun h=>h|exact Exists.intro _ rfl))) (by simp [QO]) (by first|(simp [QO];done)|(simp [QO];omega)) (by omega)
      · rw [hb] at g1 htk
        simp only [if_true] at htk
        have hns:((l.take (k + 1)).filter (yf l)).map Qu.name = ((l.take k).filter (yf l)).map Qu.name++[p.name]:=by rw [htk,List.map_append];rfl
        generalize ((l.take k).filter (yf l)).map Qu.name = ns at *
        have hbb:List.map V.str ns++[V.str p.name] = (ns++[p.name]).map V.str:=by rw [List.map_append];rfl
        have hln:ns.length + 1 = (ns++[p.name]).length:=by simp
        repeat' (first|refine Qb fun K' hK=>?_|refine Qe fun K' hK=>?_|refine Qc ?_|refine Qd ?_|refine Qa ?_|((first|refine Qg ⟨_,rfl,fun hc=>?_,fun hc=>?_⟩|refine Qs (fun hc=>?_) (fun hc=>?_)|refine Qt (fun hc=>?_) (fun hc=>?_))<;>first|(cases hc;done)|((try simp only [znz] at hc);first|exact znf|skip))|refine Qi ?_|refine Qf ?_|simp (maxSteps:=1000000) only [go_sem,Xy,e1,hw,Int.toNat_natCast,List.getElem?_map,hget,Qu.v,Qu.cells,VF,hbb,hln]|(refine hK _ ?_;clear hK K')|apply And.intro|(apply Qv;(focus first|exact g1|exact (JO _ zsd).b|exact (Wp _ _ zsd zsd).b|exact (Q0 _ _ _ _ zsd zsd zsd).b))|exact zlo|omega|exact zms)
        all_goals first
          | (refine hL _ (k + 1) (QO [(1,13002)]) (by omega) (by omega) ?_
             rw [hns]
             exact JE [(1,13002)] (by simp only [go_sem,and_true,true_and,implies_true,Option.some.injEq,exists_eq_left',Qh,Qj];(repeat' (first|rfl|apply And.intro|omega|exact fun h=>h|exact Exists.intro _ rfl))) (by simp only [go_sem,and_true,true_and,implies_true,Option.some.injEq,exists_eq_left',Qh,Qj];(repeat' (first|rfl|apply And.intro|omega|exact fun h=>h|exact Exists.intro _ rfl))) (by simp [QO]) (by simp;omega) (by omega))
          | (simp only [List.length_append,List.length_singleton];omega)
  · have e2:(Y8 l != 0) = true:=by simpa using hc0
    rw [if_neg hc0]
    repeat' (first|refine Qb fun K' hK=>?_|refine Qe fun K' hK=>?_|refine Qc ?_|refine Qd ?_|refine Qa ?_|((first|refine Qg ⟨_,rfl,fun hc=>?_,fun hc=>?_⟩|refine Qs (fun hc=>?_) (fun hc=>?_)|refine Qt (fun hc=>?_) (fun hc=>?_))<;>first|(cases hc;done)|((try simp only [znz] at hc);first|exact znf|skip))|refine Qi ?_|refine Qf ?_|simp (maxSteps:=1000000) only [go_sem,e2]|(refine hK _ ?_;clear hK K')|apply And.intro|(apply Qv;(focus first|exact gc|exact (JO _ zsd).b|exact (Wp _ _ zsd zsd).b|exact (Q0 _ _ _ _ zsd zsd zsd).b))|exact zlo|omega|exact zms)
    all_goals first|(refine QM _ rfl ?_;simp only [go_sem];first|done|rfl|exact ⟨_,_,rfl⟩)
end Av
end
section
set_option linter.unusedSimpArgs false
set_option linter.unusedVariables false
set_option maxRecDepth 10000
set_option maxHeartbeats 4000000
namespace Av
open Go
attribute [local irreducible] AWp WY Vp Vq awS awC V1 awQ Uh Q9 YQ VZ awR YT awB okR Ww ris
def apz (n:JS):JS:={ n with lo:=[],up:=[] }
def ahZ (p:Qu):Qu:={ p with needs:=p.needs.map apz }
end Av
end
section
set_option linter.unusedSimpArgs false
set_option linter.unusedVariables false
set_option maxRecDepth 10000
set_option maxHeartbeats 4000000
namespace Av
open Go
attribute [local irreducible] AWp WY Vp Vq awS awC V1 awQ Uh Q9 YQ VZ awR YT awB okR Ww ris
theorem agu:∀ a:List UInt8,Op.bytesLess a a = false
  | []=>rfl
  | c :: r=>by
    rw [Op.bytesLess,agu r]
    simp
theorem af0:∀ a b c:List UInt8,Op.bytesLess a b = true→Op.bytesLess b c = true→Op.bytesLess a c = true
  | _,[],_,h,_=>by simp [Op.bytesLess] at h
  | _,_ :: _,[],_,h=>by simp [Op.bytesLess] at h
  | [],_ :: _,_ :: _,_,_=>rfl
  | x :: a,y :: b,z :: c,h1,h2=>by
    have ih:=af0 a b c
    simp only [Op.bytesLess,Bool.or_eq_true,Bool.and_eq_true,decide_eq_true_eq,beq_iff_eq] at h1 h2 ⊢
    rcases h1 with h1|⟨rfl,h1⟩
    · rcases h2 with h2|⟨rfl,h2⟩
      · exact .inl (UInt8.lt_trans h1 h2)
      · exact .inl h1
    · rcases h2 with h2|⟨rfl,h2⟩
      · exact .inl h2
      · exact .inr ⟨rfl,ih h1 h2⟩
theorem ag4:∀ (l:List Qu) (a:Qu),YZ (a :: l) = false→∀ p∈l,Op.bytesLess a.name p.name = true
  | [],_,_,p,hp=>by cases hp
  | b :: l,a,h,p,hp=>by
    simp only [YZ,Bool.or_eq_false_iff,Bool.not_eq_false'] at h
    rcases List.mem_cons.1 hp with rfl|hp
    · exact h.1
    · exact af0 _ _ _ h.1 (ag4 l b h.2 p hp)
theorem aig {a:Qu} {l:List Qu} (h:YZ (a :: l) = false):YZ l = false:=by
  cases l with
  | nil=>rfl
  | cons b r=>simp only [YZ,Bool.or_eq_false_iff] at h;exact h.2
theorem abp:∀ l:List Qu,YZ (l.map ahZ) = YZ l
  | []=>rfl
  | [_]=>rfl
  | a :: b :: r=>by
    have ih:=abp (b :: r)
    simp only [List.map_cons] at ih
    simp only [List.map_cons,YZ]
    rw [ih];rfl
theorem akI {l:List Qu} (h:Y8 l = 0):Y8 (l.map ahZ) = 0∧YZ l = false:=by
  unfold Y8 at h
  split at h
  · exact absurd h (by decide)
  · rename_i h1
    split at h
    · exact absurd h (by decide)
    · rename_i h2
      split at h
      · exact absurd h (by decide)
      · rename_i h3
        split at h
        · exact absurd h (by decide)
        · rename_i h4
          have h4:YZ l = false:=by simpa using h4
          refine ⟨?_,h4⟩
          have e1:(l.map ahZ).any aew = l.any aew:=by
            rw [List.any_map];congr 1;funext p;simp [aew,ahZ]
          have e2:(l.map ahZ).any akX = l.any akX:=by
            rw [List.any_map];congr 1;funext p;simp only [Function.comp,akX,ahZ,List.any_map];rfl
          have e3:(l.map ahZ).any ajn = false:=by
            rw [List.any_map,List.any_eq_false]
            intro p hp
            have hm:ajn p = false:=by
              have h3:l.any ajn = false:=by simpa using h3
              exact Bool.eq_false_iff.2 (List.any_eq_false.1 h3 p hp)
            simp only [ajn,Bool.or_eq_false_iff] at hm
            simp only [Function.comp,ajn,ahZ,List.any_map,hm.1,Bool.false_or]
            simp [apz,Wt,List.any_eq_true]
          unfold Y8
          rw [List.length_map,e1,e2,e3,abp,if_neg h1,if_neg h2,h4]
          rfl
end Av
end
section
set_option linter.unusedSimpArgs false
set_option linter.unusedVariables false
set_option maxRecDepth 10000
set_option maxHeartbeats 4000000
namespace Av
open Go
attribute [local irreducible] AWp WY Vp Vq awS awC V1 awQ Uh Q9 YQ VZ awR YT awB okR Ww ris
def Qu.own (p:Qu) (a:Nat):V:=.agg [V.str p.name,.sl 1 (p.ver.map V.int),.hd a 0 p.needs.length]
def abw:Nat→List Qu→List V
  | _,[]=>[]
  | n,p :: r=>p.own n :: abw (n + 1) r
theorem V7:∀ (ps:List Qu) (n:Nat),(abw n ps).length = ps.length
  | [],_=>rfl
  | p :: r,n=>by simp only [abw,List.length_cons,V7 r]
theorem wc:∀ (ps:List Qu) (n j:Nat),(abw n ps)[j]? = (ps[j]?).map fun p=>p.own (n + j)
  | [],n,j=>by simp [abw]
  | p :: r,n,0=>by simp [abw]
  | p :: r,n,j + 1=>by
    simp only [abw,List.getElem?_cons_succ]
    rw [wc r (n + 1) j,show n + 1 + j = n + (j + 1) by omega]
theorem aje:∀ (ps:List Qu) (n:Nat) (p:Qu),abw n (ps++[p]) = abw n ps++[p.own (n + ps.length)]
  | [],n,p=>rfl
  | q :: r,n,p=>by
    simp only [List.cons_append,abw,aje r,List.length_cons]
    rw [show n + 1 + r.length = n + (r.length + 1) by omega]
theorem agp {τ:Nat→Nat}:∀ (ps:List Qu) (n:Nat),(∀ i,i < ps.length→τ (n + i) = n + i)→qU τ (abw n ps) = abw n ps
  | [],_,_=>rfl
  | p :: r,n,h=>by
    have h0:=h 0 (by simp)
    simp only [abw,qU,Qu.own,V.ren]
    rw [agp r (n + 1) (fun i hi=>by rw [show n + 1 + i = n + (i + 1) by omega];exact h (i + 1) (by simp;omega))]
    rw [show τ n = n by simpa using h0]
theorem aip:∀ (ps:List Qu) (n m:Nat),n + ps.length≤m→ltL m (abw n ps)
  | [],_,_,_=>trivial
  | p :: r,n,m,h=>by
    simp only [List.length_cons] at h
    refine ⟨⟨trivial,trivial,?_,trivial⟩,aip r (n + 1) m (by omega)⟩
    show n < m;omega
def Km (ps:List Qu):List Ob:=ps.map fun p=>.buf true 3 (p.needs.map JS.v)
theorem jH (ps:List Qu):(Km ps).length = ps.length:=by simp [Km]
def alM (n:JS):Prop:=n.name.length≤5∧n.lo.length≤4∧n.up.length≤4
def ajd (p:Qu):Prop:=p.name.length≤5∧p.ver.length≤5∧p.needs.length≤9∧∀ n∈p.needs,alM n
def aay (ps:List Qu):Prop:=ps.length≤5∧∀ p∈ps,ajd p
def apc (p:Qu):Prop:=p.name.length≤5∧p.ver.length≤5∧p.needs.length≤3∧∀ n∈p.needs,alM n
def ana (ps:List Qu):Prop:=ps.length≤5∧∀ p∈ps,apc p
theorem ana.ok {ps:List Qu} (h:ana ps):aay ps:=⟨h.1,fun p hp=>⟨(h.2 p hp).1,(h.2 p hp).2.1,Nat.le_trans (h.2 p hp).2.2.1 (by omega),(h.2 p hp).2.2.2⟩⟩
def alW (l:List Int) (res:V) (outs:List Ob):Prop:=∃ ps k,aay ps∧k≤l.length∧res = .hd 1 0 ps.length∧outs = .box true (J3 l k) :: .obuf true 3 (abw 2 ps) :: Km ps
theorem ai7 {o:Nat→Option Ob} {br:List Nat} {B:Option (List Nat)}:∀ (names:List Nat) (obs:List Ob),names.length = obs.length →
    (∀ (i a:Nat) (y:Ob),names[i]? = some a→obs[i]? = some y→∃ x,o a = some x∧amJ o br B x y)→anJ o br B names obs
  | [],[],_,_=>trivial
  | [],_ :: _,h,_=>by simp at h
  | _ :: _,[],h,_=>by simp at h
  | a :: r,y :: r',h,hh=>⟨hh 0 a y rfl rfl,ai7 r r' (by simpa using h) fun i a' y' h1 h2=>hh (i + 1) a' y' h1 h2⟩
theorem aeW {o:Nat→Option Ob} {br:List Nat} {B:Option (List Nat)}:∀ (xs ys:List V),xs.length = ys.length→(∀ (i:Nat) (x y:V),xs[i]? = some x→ys[i]? = some y→X2 o br B x.cells y.cells)→adV o br B xs ys
  | [],[],_,_=>trivial
  | [],_ :: _,h,_=>by simp at h
  | _ :: _,[],h,_=>by simp at h
  | x :: r,y :: r',h,hh=>⟨hh 0 x y rfl rfl,aeW r r' (by simpa using h) fun i x' y' h1 h2=>hh (i + 1) x' y' h1 h2⟩
theorem aeU {l:List Int} {k X:Nat} {s:St} {xs:List V} {ps:List Qu} (nm:Nat→Nat) (hok:aay ps) (hk:k≤l.length) (h2:s.t 2 = .hd X 0 ps.length) (h0:s.o 0 = some (.box true (J3 l k)))
    (hX:s.o X = some (.obuf true 3 xs)) (hl:xs.length = ps.length)
    (hn:∀ (i:Nat) (p:Qu),ps[i]? = some p→∃ y,s.o (nm i) = some y∧amJ s.o (0 :: X :: (List.range ps.length).map nm) none y (.buf true 3 (p.needs.map JS.v)))
    (hx:∀ (i:Nat) (p:Qu),ps[i]? = some p→∃ z,xs[i]? = some (.agg [V.str p.name,z,.hd (nm i) 0 p.needs.length])∧conv s.o (0 :: X :: (List.range ps.length).map nm) none z (.sl 1 (p.ver.map V.int)))
    (hX0:X≠0) (hne:∀ i,i < ps.length→nm i≠0∧nm i≠X) (hinj:∀ i j,i < ps.length→j < ps.length→nm i = nm j→i = j):afz 1 [.tmp 2] (alW l) s:=by
  refine ⟨.hd 1 0 ps.length,.box true (J3 l k) :: .obuf true 3 (abw 2 ps) :: Km ps,⟨ps,k,hok,hk,rfl,rfl⟩,?_⟩
  show ∃ br B,_
  refine ⟨0 :: X :: (List.range ps.length).map nm,none,?_,⟨⟨_,h0,fun h=>h,YP _ _ _ _ (JP _ _)⟩,⟨_,hX,fun h=>h,rfl,?_⟩,ai7 _ _ (by simp [Km]) fun i a y h1 h2=>?_⟩,?_,rfl⟩
  · show conv s.o _ none (s.t 2) _
    rw [h2];simp [conv]
  · refine aeW _ _ (by rw [hl,V7]) fun i x y h3 h4=>?_
    rw [wc] at h4
    simp only [Option.map_eq_some_iff] at h4
    obtain ⟨p,hp,rfl⟩:=h4
    obtain ⟨z,e1,e2⟩:=hx i p hp
    rw [e1] at h3;cases h3
    have hi:i < ps.length:=(List.getElem?_eq_some_iff.1 hp).1
    refine ⟨by simp [conv],e2,?_,trivial⟩
    simp only [conv,and_true]
    rw [show 2 + i = i + 1 + 1 by omega,List.getElem?_cons_succ,List.getElem?_cons_succ,List.getElem?_map,List.getElem?_range hi];rfl
  · simp only [List.getElem?_map,Option.map_eq_some_iff] at h1
    obtain ⟨j,hj,rfl⟩:=h1
    obtain ⟨hi,rfl⟩:=List.getElem?_eq_some_iff.1 hj
    simp only [List.length_range] at hi
    simp only [Km,List.getElem?_map,Option.map_eq_some_iff] at h2
    obtain ⟨p,hp,rfl⟩:=h2
    simpa using hn i p hp
  · simp only [List.nodup_cons,List.mem_cons,List.mem_map,List.mem_range,not_or,not_exists,not_and]
    refine ⟨⟨fun h=>hX0 h.symm,fun i hi e=>(hne i hi).1 e⟩,fun i hi e=>(hne i hi).2 e,?_⟩
    rw [List.Nodup,List.pairwise_map]
    exact List.Pairwise.imp_of_mem (fun {a b} ha hb hab e=>hab (hinj a b (by simpa using ha) (by simpa using hb) e)) List.nodup_range
end Av
end
section
set_option linter.unusedSimpArgs false
set_option linter.unusedVariables false
set_option maxRecDepth 10000
set_option maxHeartbeats 4000000
namespace Av
open Go
attribute [local irreducible] AWp WY Vp Vq awS awC V1 awQ Uh Q9 YQ VZ awR YT awB okR Ww ris
def ajm:List (List UInt8):=[[97,112,112],[99,114,121,112,116],[108,105,98],[115,115,108],[122,105,112]]
theorem afX {j:Nat} (h:j < 5):∃ w,ajm[j]? = some w∧w.length≤5:=by
  match j,h with
  | 0,_=>exact ⟨_,rfl,by decide⟩
  | 1,_=>exact ⟨_,rfl,by decide⟩
  | 2,_=>exact ⟨_,rfl,by decide⟩
  | 3,_=>exact ⟨_,rfl,by decide⟩
  | 4,_=>exact ⟨_,rfl,by decide⟩
abbrev alO:List V:=ajm.map V.str
def ajs (l:List Int) (ps:List Qu) (k i:Nat):St:=KH [(0,.ptr 0 0),(3,.hd 1 0 5),(4,.hd 2 0 ps.length),(5,V.int i)] [(0,.box true (J3 l k)),(1,.buf true 1 alO),(2,.obuf true 3 (abw 100 ps))] 100 (Km ps) 200
def alL (l:List Int) (ps:List Qu) (nm:List UInt8) (ver:List Int) (ns:List JS) (k i:Nat) (c:Int):St :=
  KH [(0,.ptr 0 0),(3,.hd 1 0 5),(4,.hd 2 0 ps.length),(5,V.int i),(6,.ptr 3 0),(7,V.int c)] [(0,.box true (J3 l k)),(1,.buf true 1 alO),(2,.obuf true 3 (abw 100 ps)),(3,.box true [V.str nm,.sl 1 (ver.map V.int),.hd 4 0 ns.length]),(4,.buf true 3 (ns.map JS.v))] 100 (Km ps) 200
def aaz (l:List Int) (ps:List Qu) (k:Nat):St:=KH [(0,.ptr 0 0),(4,.hd 2 0 ps.length)] [(0,.box true (J3 l k)),(2,.obuf true 3 (abw 100 ps))] 100 (Km ps) 200
theorem aaO:∀ (ns:List JS),abd (ns.map JS.v)
  | []=>trivial
  | n :: r=>⟨⟨trivial,(by simp only [V.closed]),(by simp only [V.closed]),trivial⟩,aaO r⟩
theorem aby {ps:List Qu} {s:St} {tau:List (Nat×Nat)} {n:Nat} (h:∀ i,i < ps.length→s.o (QO tau (100 + i)) = (Km ps)[i]?) :
    ∀ i (hi:i < (Km ps).length),∃ x,s.o (QO tau (100 + i)) = some x∧x.weak (QO tau) n (Km ps)[i]:=by
  intro i hi
  have h1:=h i (by simpa [Km] using hi)
  rw [List.getElem?_eq_getElem hi] at h1
  refine ⟨_,h1,?_⟩
  simp only [Km,List.getElem_map]
  exact ⟨id,rfl,rfl⟩
theorem ad2 {ps:List Qu} {τ:Nat→Nat} {n:Nat} (ht:∀ i,i < ps.length→τ (100 + i) = 100 + i) (hn:100 + ps.length≤n):(Ob.obuf true 3 (abw 100 ps)).weak τ n (.obuf true 3 (abw 100 ps)) :=
  ⟨id,rfl,(agp ps 100 ht).symm,aip ps 100 n hn⟩
theorem yA {l:List Int} {k:Nat} {τ:Nat→Nat} {n:Nat}:(Ob.box true (J3 l k)).weak τ n (.box true (J3 l k)) :=
  ⟨id,rfl,Ku _ _ (by simp only [V.closed]),trivial,trivial⟩
theorem akn {ps:List Qu} {j:Nat} {q:Qu} (h:aay ps) (hq:ajd q):aay (ps.set j q):=⟨by simp;exact h.1,fun y hy=>by
  rcases List.mem_or_eq_of_mem_set hy with h2|h2
  · exact h.2 y h2
  · rw [h2];exact hq⟩
theorem wA {l:List Int} {k j nj:Nat} {s:St} {ps:List Qu} {q:Qu} {z:V} (hok:aay ps) (hq:ajd q) (hj:j < ps.length) (hk:k≤l.length) (h2:s.t 2 = .hd 2 0 ps.length) (h0:s.o 0 = some (.box true (J3 l k)))
    (hX:s.o 2 = some (.obuf true 3 ((abw 100 ps).set j (.agg [V.str q.name,z,.hd nj 0 q.needs.length]))))
    (hz:∀ br:List Nat,(∀ a∈br,a < 200∨a = nj)→conv s.o br none z (.sl 1 (q.ver.map V.int))) (hnj:nj = 100 + j∨200≤nj)
    (hn:∀ i,i < ps.length→i≠j→s.o (100 + i) = (Km ps)[i]?) (hj2:∀ br:List Nat,(∀ a∈br,a < 200∨a = nj)→∃ y,s.o nj = some y∧amJ s.o br none y (.buf true 3 (q.needs.map JS.v))):afz 1 [.tmp 2] (alW l) s:=by
  have hps:=hok.1
  have hbr:∀ a∈(0 :: 2 :: (List.range (ps.set j q).length).map (fun i=>if i = j then nj else 100 + i)),a < 200∨a = nj:=by
    intro a ha
    simp only [List.mem_cons,List.mem_map,List.mem_range,List.length_set] at ha
    rcases ha with rfl|rfl|⟨i,hi,rfl⟩
    · omega
    · omega
    · split<;>omega
  refine aeU (k:=k) (X:=2) (xs:=(abw 100 ps).set j (.agg [V.str q.name,z,.hd nj 0 q.needs.length])) (ps:=ps.set j q) (fun i=>if i = j then nj else 100 + i) (akn hok hq) hk
    (by rw [h2,List.length_set]) h0 hX (by rw [List.length_set,List.length_set,V7]) (fun i y hy=>?_) (fun i y hy=>?_) (by omega) (fun i hi=>?_) (fun a b ha hb hab=>?_)
  · rw [List.getElem?_set] at hy
    by_cases hij:i = j
    · subst hij
      rw [if_pos rfl,if_pos hj] at hy;cases hy
      rw [if_pos rfl]
      exact hj2 _ hbr
    · rw [if_neg (fun e=>hij e.symm)] at hy
      rw [if_neg hij]
      have hi:=(List.getElem?_eq_some_iff.1 hy).1
      refine ⟨.buf true 3 (y.needs.map JS.v),?_,fun h=>h,rfl,rfl⟩
      rw [hn i hi hij,Km,List.getElem?_map,hy];rfl
  · rw [List.getElem?_set] at hy
    by_cases hij:i = j
    · subst hij
      rw [if_pos rfl,if_pos hj] at hy;cases hy
      refine ⟨z,?_,hz _ hbr⟩
      rw [List.getElem?_set,if_pos rfl,if_pos (by rw [V7];exact hj)]
      simp
    · rw [if_neg (fun e=>hij e.symm)] at hy
      refine ⟨.sl 1 (y.ver.map V.int),?_,by simp [conv]⟩
      rw [List.getElem?_set,if_neg (fun e=>hij e.symm),wc,hy,if_neg hij];rfl
  · rw [List.length_set] at hi
    split<;>omega
  · rw [List.length_set] at ha hb
    split at hab<;>split at hab<;>omega
theorem af4 {l br:List Nat} {o:Nat→Option Ob} {a:Nat} (h:a ∉ l):abj (some l) br o a = o a:=by unfold abj;simp [h]
theorem ab2 (n:JS):Qn n.v.cells:=⟨trivial,(by simp only [V.closed]),(by simp only [V.closed]),trivial⟩
def xx (JG:Nat):List AO:=[mv 18 3,mv 19 5,ia 20 1 18 19,ld 21 1 20,mv 22 0,cl 23 JG [22],xo 24 (.build [(.string ⟨#[]⟩),(.slice none 0 0),(.slice none 0 0)] [(0,1,(.t 21)),(1,1,(.t 23))]),xo 6 (.alloc [.val (.string ⟨#[]⟩),.nil 1,.nil 3]),xs 3 6 24]
def xM:List (List Nat):=[[],[],[0,1],[2],[],[4],[3,5],[],[7,6,5,0,1,2,3,4,5,6,7]]
def xr:OT:=.one 0 (.one 1 (.one 2 (.one 3 (.one 4 (.one 5 (.one 6 (.one 7 (.one 8 (.done)))))))))
def Yd (JG:Nat):OP:=.one 0 false [] (mv 18 3) (.one 1 false [] (mv 19 5) (.one 2 false [] (ia 20 1 18 19) (.one 3 false [] (ld 21 1 20) (.one 4 false [] (mv 22 0) (.one 5 true [] (cl 23 JG [22]) (.one 6 false [5] (xo 24 (.build [(.string ⟨#[]⟩),(.slice none 0 0),(.slice none 0 0)] [(0,1,(.t 21)),(1,1,(.t 23))])) (.one 7 false [] (xo 6 (.alloc [.val (.string ⟨#[]⟩),.nil 1,.nil 3])) (.one 8 true [7,5] (xs 3 6 24) (.done)))))))))
theorem Jk (JG:Nat):okR (xx JG) xM [5] xr = true:=by kernel_rfl
theorem Jh (JG:Nat):Ww (ris (xx JG) xM [5]) xr = Yd JG:=by kernel_rfl
def xw (Qr Jr:Nat):List AO:=[fa 31 2 6,ld 32 1 31,mv 33 3,mv 34 0,mv 35 3,ln 36 35,cl 37 Qr [34,36],ia 38 1 33 37,ld 39 1 38,mv 40 0,cl 41 Jr [40],xo 42 (.build [(.string ⟨#[]⟩),(.slice none 0 0),(.slice none 0 0)] [(0,1,(.t 39)),(1,2,(.t 41))]),xo 43 (.obslice 1 3 true [(.string ⟨#[]⟩),(.slice none 0 0),(.slice none 0 0)] [(0,(.t 42))]),xo 44 (.append 3 64 [(.string ⟨#[]⟩),(.slice none 0 0),(.slice none 0 0)] (.t 32) (.t 43)),fa 45 2 6,xs 1 45 44]
def xL:List (List Nat):=[[],[0],[],[],[],[4],[3,5],[2,6],[7],[],[9,6],[8,10],[11],[1,12,10],[0,1,2,3,4,5,6,7,8,9,10,11,12,13],[14,13,13,0,1,2,3,4,5,6,7,8,9,10,11,12,13]]
def xq:OT:=.one 0 (.one 2 (.one 3 (.one 4 (.one 5 (.one 9 (.or 1 (.or 6 (.or 7 (.or 8 (.or 10 (.or 11 (.one 12 (.one 13 (.one 14 (.one 15 (.done))))) (.done)) (.done)) (.or 10 (.or 8 (.or 11 (.one 12 (.one 13 (.one 14 (.one 15 (.done))))) (.done)) (.done)) (.done))) (.or 10 (.or 7 (.or 8 (.or 11 (.one 12 (.one 13 (.one 14 (.one 15 (.done))))) (.done)) (.done)) (.done)) (.done))) (.done)) (.or 6 (.or 1 (.or 7 (.or 8 (.or 10 (.or 11 (.one 12 (.one 13 (.one 14 (.one 15 (.done))))) (.done)) (.done)) (.or 10 (.or 8 (.or 11 (.one 12 (.one 13 (.one 14 (.one 15 (.done))))) (.done)) (.done)) (.done))) (.or 10 (.or 7 (.or 8 (.or 11 (.one 12 (.one 13 (.one 14 (.one 15 (.done))))) (.done)) (.done)) (.done)) (.done))) (.or 7 (.or 1 (.or 8 (.or 10 (.or 11 (.one 12 (.one 13 (.one 14 (.one 15 (.done))))) (.done)) (.done)) (.or 10 (.or 8 (.or 11 (.one 12 (.one 13 (.one 14 (.one 15 (.done))))) (.done)) (.done)) (.done))) (.or 8 (.or 1 (.or 10 (.or 11 (.one 12 (.one 13 (.one 14 (.one 15 (.done))))) (.done)) (.done)) (.or 10 (.one 1 (.or 11 (.one 12 (.one 13 (.one 14 (.one 15 (.done))))) (.done))) (.done))) (.or 10 (.or 1 (.or 8 (.or 11 (.one 12 (.one 13 (.one 14 (.one 15 (.done))))) (.done)) (.done)) (.or 8 (.one 1 (.or 11 (.one 12 (.one 13 (.one 14 (.one 15 (.done))))) (.done))) (.done))) (.done)))) (.or 10 (.or 1 (.or 7 (.or 8 (.or 11 (.one 12 (.one 13 (.one 14 (.one 15 (.done))))) (.done)) (.done)) (.done)) (.or 7 (.or 1 (.or 8 (.or 11 (.one 12 (.one 13 (.one 14 (.one 15 (.done))))) (.done)) (.done)) (.or 8 (.one 1 (.or 11 (.one 12 (.one 13 (.one 14 (.one 15 (.done))))) (.done))) (.done))) (.done))) (.done)))) (.done))))))))
def Yc (Qr Jr:Nat):OP:=.one 0 false [] (fa 31 2 6) (.one 2 false [] (mv 33 3) (.one 3 false [] (mv 34 0) (.one 4 false [] (mv 35 3) (.one 5 false [] (ln 36 35) (.one 9 false [] (mv 40 0) (.or 1 true [] (ld 32 1 31) (.or 6 true [] (cl 37 Qr [34,36]) (.or 7 true [6] (ia 38 1 33 37) (.or 8 true [6] (ld 39 1 38) (.or 10 true [] (cl 41 Jr [40]) (.or 11 false [10,6] (xo 42 (.build [(.string ⟨#[]⟩),(.slice none 0 0),(.slice none 0 0)] [(0,1,(.t 39)),(1,2,(.t 41))])) (.one 12 false [10,6] (xo 43 (.obslice 1 3 true [(.string ⟨#[]⟩),(.slice none 0 0),(.slice none 0 0)] [(0,(.t 42))])) (.one 13 true [12,10,6] (xo 44 (.append 3 64 [(.string ⟨#[]⟩),(.slice none 0 0),(.slice none 0 0)] (.t 32) (.t 43))) (.one 14 false [] (fa 45 2 6) (.one 15 true [13,12,10,6] (xs 1 45 44) (.done))))) (.done)) (.done)) (.or 10 true [] (cl 41 Jr [40]) (.or 8 true [6] (ld 39 1 38) (.or 11 false [10,6] (xo 42 (.build [(.string ⟨#[]⟩),(.slice none 0 0),(.slice none 0 0)] [(0,1,(.t 39)),(1,2,(.t 41))])) (.one 12 false [10,6] (xo 43 (.obslice 1 3 true [(.string ⟨#[]⟩),(.slice none 0 0),(.slice none 0 0)] [(0,(.t 42))])) (.one 13 true [12,10,6] (xo 44 (.append 3 64 [(.string ⟨#[]⟩),(.slice none 0 0),(.slice none 0 0)] (.t 32) (.t 43))) (.one 14 false [] (fa 45 2 6) (.one 15 true [13,12,10,6] (xs 1 45 44) (.done))))) (.done)) (.done)) (.done))) (.or 10 true [] (cl 41 Jr [40]) (.or 7 true [6] (ia 38 1 33 37) (.or 8 true [6] (ld 39 1 38) (.or 11 false [10,6] (xo 42 (.build [(.string ⟨#[]⟩),(.slice none 0 0),(.slice none 0 0)] [(0,1,(.t 39)),(1,2,(.t 41))])) (.one 12 false [10,6] (xo 43 (.obslice 1 3 true [(.string ⟨#[]⟩),(.slice none 0 0),(.slice none 0 0)] [(0,(.t 42))])) (.one 13 true [12,10,6] (xo 44 (.append 3 64 [(.string ⟨#[]⟩),(.slice none 0 0),(.slice none 0 0)] (.t 32) (.t 43))) (.one 14 false [] (fa 45 2 6) (.one 15 true [13,12,10,6] (xs 1 45 44) (.done))))) (.done)) (.done)) (.done)) (.done))) (.done)) (.or 6 true [] (cl 37 Qr [34,36]) (.or 1 true [] (ld 32 1 31) (.or 7 true [6] (ia 38 1 33 37) (.or 8 true [6] (ld 39 1 38) (.or 10 true [] (cl 41 Jr [40]) (.or 11 false [10,6] (xo 42 (.build [(.string ⟨#[]⟩),(.slice none 0 0),(.slice none 0 0)] [(0,1,(.t 39)),(1,2,(.t 41))])) (.one 12 false [10,6] (xo 43 (.obslice 1 3 true [(.string ⟨#[]⟩),(.slice none 0 0),(.slice none 0 0)] [(0,(.t 42))])) (.one 13 true [12,10,6] (xo 44 (.append 3 64 [(.string ⟨#[]⟩),(.slice none 0 0),(.slice none 0 0)] (.t 32) (.t 43))) (.one 14 false [] (fa 45 2 6) (.one 15 true [13,12,10,6] (xs 1 45 44) (.done))))) (.done)) (.done)) (.or 10 true [] (cl 41 Jr [40]) (.or 8 true [6] (ld 39 1 38) (.or 11 false [10,6] (xo 42 (.build [(.string ⟨#[]⟩),(.slice none 0 0),(.slice none 0 0)] [(0,1,(.t 39)),(1,2,(.t 41))])) (.one 12 false [10,6] (xo 43 (.obslice 1 3 true [(.string ⟨#[]⟩),(.slice none 0 0),(.slice none 0 0)] [(0,(.t 42))])) (.one 13 true [12,10,6] (xo 44 (.append 3 64 [(.string ⟨#[]⟩),(.slice none 0 0),(.slice none 0 0)] (.t 32) (.t 43))) (.one 14 false [] (fa 45 2 6) (.one 15 true [13,12,10,6] (xs 1 45 44) (.done))))) (.done)) (.done)) (.done))) (.or 10 true [] (cl 41 Jr [40]) (.or 7 true [6] (ia 38 1 33 37) (.or 8 true [6] (ld 39 1 38) (.or 11 false [10,6] (xo 42 (.build [(.string ⟨#[]⟩),(.slice none 0 0),(.slice none 0 0)] [(0,1,(.t 39)),(1,2,(.t 41))])) (.one 12 false [10,6] (xo 43 (.obslice 1 3 true [(.string ⟨#[]⟩),(.slice none 0 0),(.slice none 0 0)] [(0,(.t 42))])) (.one 13 true [12,10,6] (xo 44 (.append 3 64 [(.string ⟨#[]⟩),(.slice none 0 0),(.slice none 0 0)] (.t 32) (.t 43))) (.one 14 false [] (fa 45 2 6) (.one 15 true [13,12,10,6] (xs 1 45 44) (.done))))) (.done)) (.done)) (.done)) (.done))) (.or 7 true [6] (ia 38 1 33 37) (.or 1 true [] (ld 32 1 31) (.or 8 true [6] (ld 39 1 38) (.or 10 true [] (cl 41 Jr [40]) (.or 11 false [10,6] (xo 42 (.build [(.string ⟨#[]⟩),(.slice none 0 0),(.slice none 0 0)] [(0,1,(.t 39)),(1,2,(.t 41))])) (.one 12 false [10,6] (xo 43 (.obslice 1 3 true [(.string ⟨#[]⟩),(.slice none 0 0),(.slice none 0 0)] [(0,(.t 42))])) (.one 13 true [12,10,6] (xo 44 (.append 3 64 [(.string ⟨#[]⟩),(.slice none 0 0),(.slice none 0 0)] (.t 32) (.t 43))) (.one 14 false [] (fa 45 2 6) (.one 15 true [13,12,10,6] (xs 1 45 44) (.done))))) (.done)) (.done)) (.or 10 true [] (cl 41 Jr [40]) (.or 8 true [6] (ld 39 1 38) (.or 11 false [10,6] (xo 42 (.build [(.string ⟨#[]⟩),(.slice none 0 0),(.slice none 0 0)] [(0,1,(.t 39)),(1,2,(.t 41))])) (.one 12 false [10,6] (xo 43 (.obslice 1 3 true [(.string ⟨#[]⟩),(.slice none 0 0),(.slice none 0 0)] [(0,(.t 42))])) (.one 13 true [12,10,6] (xo 44 (.append 3 64 [(.string ⟨#[]⟩),(.slice none 0 0),(.slice none 0 0)] (.t 32) (.t 43))) (.one 14 false [] (fa 45 2 6) (.one 15 true [13,12,10,6] (xs 1 45 44) (.done))))) (.done)) (.done)) (.done))) (.or 8 true [6] (ld 39 1 38) (.or 1 true [] (ld 32 1 31) (.or 10 true [] (cl 41 Jr [40]) (.or 11 false [10,6] (xo 42 (.build [(.string ⟨#[]⟩),(.slice none 0 0),(.slice none 0 0)] [(0,1,(.t 39)),(1,2,(.t 41))])) (.one 12 false [10,6] (xo 43 (.obslice 1 3 true [(.string ⟨#[]⟩),(.slice none 0 0),(.slice none 0 0)] [(0,(.t 42))])) (.one 13 true [12,10,6] (xo 44 (.append 3 64 [(.string ⟨#[]⟩),(.slice none 0 0),(.slice none 0 0)] (.t 32) (.t 43))) (.one 14 false [] (fa 45 2 6) (.one 15 true [13,12,10,6] (xs 1 45 44) (.done))))) (.done)) (.done)) (.or 10 true [] (cl 41 Jr [40]) (.one 1 true [] (ld 32 1 31) (.or 11 false [10,6] (xo 42 (.build [(.string ⟨#[]⟩),(.slice none 0 0),(.slice none 0 0)] [(0,1,(.t 39)),(1,2,(.t 41))])) (.one 12 false [10,6] (xo 43 (.obslice 1 3 true [(.string ⟨#[]⟩),(.slice none 0 0),(.slice none 0 0)] [(0,(.t 42))])) (.one 13 true [12,10,6] (xo 44 (.append 3 64 [(.string ⟨#[]⟩),(.slice none 0 0),(.slice none 0 0)] (.t 32) (.t 43))) (.one 14 false [] (fa 45 2 6) (.one 15 true [13,12,10,6] (xs 1 45 44) (.done))))) (.done))) (.done))) (.or 10 true [] (cl 41 Jr [40]) (.or 1 true [] (ld 32 1 31) (.or 8 true [6] (ld 39 1 38) (.or 11 false [10,6] (xo 42 (.build [(.string ⟨#[]⟩),(.slice none 0 0),(.slice none 0 0)] [(0,1,(.t 39)),(1,2,(.t 41))])) (.one 12 false [10,6] (xo 43 (.obslice 1 3 true [(.string ⟨#[]⟩),(.slice none 0 0),(.slice none 0 0)] [(0,(.t 42))])) (.one 13 true [12,10,6] (xo 44 (.append 3 64 [(.string ⟨#[]⟩),(.slice none 0 0),(.slice none 0 0)] (.t 32) (.t 43))) (.one 14 false [] (fa 45 2 6) (.one 15 true [13,12,10,6] (xs 1 45 44) (.done))))) (.done)) (.done)) (.or 8 true [6] (ld 39 1 38) (.one 1 true [] (ld 32 1 31) (.or 11 false [10,6] (xo 42 (.build [(.string ⟨#[]⟩),(.slice none 0 0),(.slice none 0 0)] [(0,1,(.t 39)),(1,2,(.t 41))])) (.one 12 false [10,6] (xo 43 (.obslice 1 3 true [(.string ⟨#[]⟩),(.slice none 0 0),(.slice none 0 0)] [(0,(.t 42))])) (.one 13 true [12,10,6] (xo 44 (.append 3 64 [(.string ⟨#[]⟩),(.slice none 0 0),(.slice none 0 0)] (.t 32) (.t 43))) (.one 14 false [] (fa 45 2 6) (.one 15 true [13,12,10,6] (xs 1 45 44) (.done))))) (.done))) (.done))) (.done)))) (.or 10 true [] (cl 41 Jr [40]) (.or 1 true [] (ld 32 1 31) (.or 7 true [6] (ia 38 1 33 37) (.or 8 true [6] (ld 39 1 38) (.or 11 false [10,6] (xo 42 (.build [(.string ⟨#[]⟩),(.slice none 0 0),(.slice none 0 0)] [(0,1,(.t 39)),(1,2,(.t 41))])) (.one 12 false [10,6] (xo 43 (.obslice 1 3 true [(.string ⟨#[]⟩),(.slice none 0 0),(.slice none 0 0)] [(0,(.t 42))])) (.one 13 true [12,10,6] (xo 44 (.append 3 64 [(.string ⟨#[]⟩),(.slice none 0 0),(.slice none 0 0)] (.t 32) (.t 43))) (.one 14 false [] (fa 45 2 6) (.one 15 true [13,12,10,6] (xs 1 45 44) (.done))))) (.done)) (.done)) (.done)) (.or 7 true [6] (ia 38 1 33 37) (.or 1 true [] (ld 32 1 31) (.or 8 true [6] (ld 39 1 38) (.or 11 false [10,6] (xo 42 (.build [(.string ⟨#[]⟩),(.slice none 0 0),(.slice none 0 0)] [(0,1,(.t 39)),(1,2,(.t 41))])) (.one 12 false [10,6] (xo 43 (.obslice 1 3 true [(.string ⟨#[]⟩),(.slice none 0 0),(.slice none 0 0)] [(0,(.t 42))])) (.one 13 true [12,10,6] (xo 44 (.append 3 64 [(.string ⟨#[]⟩),(.slice none 0 0),(.slice none 0 0)] (.t 32) (.t 43))) (.one 14 false [] (fa 45 2 6) (.one 15 true [13,12,10,6] (xs 1 45 44) (.done))))) (.done)) (.done)) (.or 8 true [6] (ld 39 1 38) (.one 1 true [] (ld 32 1 31) (.or 11 false [10,6] (xo 42 (.build [(.string ⟨#[]⟩),(.slice none 0 0),(.slice none 0 0)] [(0,1,(.t 39)),(1,2,(.t 41))])) (.one 12 false [10,6] (xo 43 (.obslice 1 3 true [(.string ⟨#[]⟩),(.slice none 0 0),(.slice none 0 0)] [(0,(.t 42))])) (.one 13 true [12,10,6] (xo 44 (.append 3 64 [(.string ⟨#[]⟩),(.slice none 0 0),(.slice none 0 0)] (.t 32) (.t 43))) (.one 14 false [] (fa 45 2 6) (.one 15 true [13,12,10,6] (xs 1 45 44) (.done))))) (.done))) (.done))) (.done))) (.done)))) (.done))))))))
theorem Jj (Qr Jr:Nat):okR (xw Qr Jr) xL [1,6,7,8,10] xq = true:=by kernel_rfl
theorem Jg (Qr Jr:Nat):Ww (ris (xw Qr Jr) xL [1,6,7,8,10]) xq = Yc Qr Jr:=by kernel_rfl
def xv (QP QL:Nat):List AO:=[mv 85 8,mv 86 8,nk 87 86,fa 88 2 87,ld 89 1 88,mv 90 0,xo 91 (.bslice 3 1 false [(.string ⟨#[]⟩)] [(0,(.c (V.str []))),(1,(.c (V.str [110,111,110,101]))),(2,(.c (V.str [120,32,121])))]),cl 92 QP [90,91],mv 93 0,xo 94 (.bslice 2 1 false [(.int .i64 0)] [(0,(.c (V.int (-1)))),(1,(.c (V.int 3)))]),cl 95 QL [93,94],xo 96 (.bslice 1 1 false [(.int .i64 0)] [(0,(.t 95))]),xo 97 (.build [(.slice none 0 0),(.slice none 0 0)] [(0,1,(.t 96))]),xo 98 (.build [(.string ⟨#[]⟩),(.slice none 0 0),(.slice none 0 0)] [(0,1,(.t 92)),(1,2,(.t 97))]),xo 99 (.obslice 1 3 true [(.string ⟨#[]⟩),(.slice none 0 0),(.slice none 0 0)] [(0,(.t 98))]),xo 100 (.append 3 64 [(.string ⟨#[]⟩),(.slice none 0 0),(.slice none 0 0)] (.t 89) (.t 99)),nk 101 85,fa 102 2 101,xs 1 102 100]
def xK:List (List Nat):=[[],[],[1],[2],[3],[],[],[5,6],[],[],[8,9,7],[10],[11],[7,12],[13],[4,14,10],[0,0,1,2,3,4,5,6,7,8,9,10,11,12,13,14,15],[16,0,1,2,3,4,5,6,7,8,9,10,11,12,13,14,15],[17,15,15,0,1,2,3,4,5,6,7,8,9,10,11,12,13,14,15]]
def xp:OT:=.one 0 (.one 1 (.one 2 (.one 3 (.one 5 (.one 8 (.or 4 (.or 6 (.or 7 (.or 9 (.or 10 (.or 11 (.or 12 (.or 13 (.one 14 (.one 15 (.one 16 (.one 17 (.one 18 (.done)))))) (.done)) (.done)) (.done)) (.done)) (.done)) (.or 9 (.or 7 (.or 10 (.or 11 (.or 12 (.or 13 (.one 14 (.one 15 (.one 16 (.one 17 (.one 18 (.done)))))) (.done)) (.done)) (.done)) (.done)) (.done)) (.done))) (.or 9 (.or 6 (.or 7 (.or 10 (.or 11 (.or 12 (.or 13 (.one 14 (.one 15 (.one 16 (.one 17 (.one 18 (.done)))))) (.done)) (.done)) (.done)) (.done)) (.done)) (.done)) (.done))) (.or 6 (.or 4 (.or 7 (.or 9 (.or 10 (.or 11 (.or 12 (.or 13 (.one 14 (.one 15 (.one 16 (.one 17 (.one 18 (.done)))))) (.done)) (.done)) (.done)) (.done)) (.done)) (.or 9 (.or 7 (.or 10 (.or 11 (.or 12 (.or 13 (.one 14 (.one 15 (.one 16 (.one 17 (.one 18 (.done)))))) (.done)) (.done)) (.done)) (.done)) (.done)) (.done))) (.or 7 (.or 4 (.or 9 (.or 10 (.or 11 (.or 12 (.or 13 (.one 14 (.one 15 (.one 16 (.one 17 (.one 18 (.done)))))) (.done)) (.done)) (.done)) (.done)) (.done)) (.or 9 (.or 4 (.or 10 (.or 11 (.or 12 (.or 13 (.one 14 (.one 15 (.one 16 (.one 17 (.one 18 (.done)))))) (.done)) (.done)) (.done)) (.done)) (.or 10 (.one 4 (.or 11 (.or 12 (.or 13 (.one 14 (.one 15 (.one 16 (.one 17 (.one 18 (.done)))))) (.done)) (.done)) (.done))) (.done))) (.done))) (.or 9 (.or 4 (.or 7 (.or 10 (.or 11 (.or 12 (.or 13 (.one 14 (.one 15 (.one 16 (.one 17 (.one 18 (.done)))))) (.done)) (.done)) (.done)) (.done)) (.done)) (.or 7 (.or 4 (.or 10 (.or 11 (.or 12 (.or 13 (.one 14 (.one 15 (.one 16 (.one 17 (.one 18 (.done)))))) (.done)) (.done)) (.done)) (.done)) (.or 10 (.one 4 (.or 11 (.or 12 (.or 13 (.one 14 (.one 15 (.one 16 (.one 17 (.one 18 (.done)))))) (.done)) (.done)) (.done))) (.done))) (.done))) (.done)))) (.or 9 (.or 4 (.or 6 (.or 7 (.or 10 (.or 11 (.or 12 (.or 13 (.one 14 (.one 15 (.one 16 (.one 17 (.one 18 (.done)))))) (.done)) (.done)) (.done)) (.done)) (.done)) (.done)) (.or 6 (.or 4 (.or 7 (.or 10 (.or 11 (.or 12 (.or 13 (.one 14 (.one 15 (.one 16 (.one 17 (.one 18 (.done)))))) (.done)) (.done)) (.done)) (.done)) (.done)) (.or 7 (.or 4 (.or 10 (.or 11 (.or 12 (.or 13 (.one 14 (.one 15 (.one 16 (.one 17 (.one 18 (.done)))))) (.done)) (.done)) (.done)) (.done)) (.or 10 (.one 4 (.or 11 (.or 12 (.or 13 (.one 14 (.one 15 (.one 16 (.one 17 (.one 18 (.done)))))) (.done)) (.done)) (.done))) (.done))) (.done))) (.done))) (.done)))))))))
def Yb (QP QL:Nat):OP:=.one 0 false [] (mv 85 8) (.one 1 false [] (mv 86 8) (.one 2 false [] (nk 87 86) (.one 3 false [] (fa 88 2 87) (.one 5 false [] (mv 90 0) (.one 8 false [] (mv 93 0) (.or 4 true [] (ld 89 1 88) (.or 6 false [] (xo 91 (.bslice 3 1 false [(.string ⟨#[]⟩)] [(0,(.c (V.str []))),(1,(.c (V.str [110,111,110,101]))),(2,(.c (V.str [120,32,121])))])) (.or 7 true [6] (cl 92 QP [90,91]) (.or 9 false [] (xo 94 (.bslice 2 1 false [(.int .i64 0)] [(0,(.c (V.int (-1)))),(1,(.c (V.int 3)))])) (.or 10 true [9] (cl 95 QL [93,94]) (.or 11 false [10,9] (xo 96 (.bslice 1 1 false [(.int .i64 0)] [(0,(.t 95))])) (.or 12 false [11,10,9] (xo 97 (.build [(.slice none 0 0),(.slice none 0 0)] [(0,1,(.t 96))])) (.or 13 false [11,10,9,7,6] (xo 98 (.build [(.string ⟨#[]⟩),(.slice none 0 0),(.slice none 0 0)] [(0,1,(.t 92)),(1,2,(.t 97))])) (.one 14 false [11,10,9,7,6] (xo 99 (.obslice 1 3 true [(.string ⟨#[]⟩),(.slice none 0 0),(.slice none 0 0)] [(0,(.t 98))])) (.one 15 true [14,11,10,9,7,6] (xo 100 (.append 3 64 [(.string ⟨#[]⟩),(.slice none 0 0),(.slice none 0 0)] (.t 89) (.t 99))) (.one 16 false [] (nk 101 85) (.one 17 false [] (fa 102 2 101) (.one 18 true [15,14,11,10,9,7,6] (xs 1 102 100) (.done)))))) (.done)) (.done)) (.done)) (.done)) (.done)) (.or 9 false [] (xo 94 (.bslice 2 1 false [(.int .i64 0)] [(0,(.c (V.int (-1)))),(1,(.c (V.int 3)))])) (.or 7 true [6] (cl 92 QP [90,91]) (.or 10 true [9] (cl 95 QL [93,94]) (.or 11 false [10,9] (xo 96 (.bslice 1 1 false [(.int .i64 0)] [(0,(.t 95))])) (.or 12 false [11,10,9] (xo 97 (.build [(.slice none 0 0),(.slice none 0 0)] [(0,1,(.t 96))])) (.or 13 false [11,10,9,7,6] (xo 98 (.build [(.string ⟨#[]⟩),(.slice none 0 0),(.slice none 0 0)] [(0,1,(.t 92)),(1,2,(.t 97))])) (.one 14 false [11,10,9,7,6] (xo 99 (.obslice 1 3 true [(.string ⟨#[]⟩),(.slice none 0 0),(.slice none 0 0)] [(0,(.t 98))])) (.one 15 true [14,11,10,9,7,6] (xo 100 (.append 3 64 [(.string ⟨#[]⟩),(.slice none 0 0),(.slice none 0 0)] (.t 89) (.t 99))) (.one 16 false [] (nk 101 85) (.one 17 false [] (fa 102 2 101) (.one 18 true [15,14,11,10,9,7,6] (xs 1 102 100) (.done)))))) (.done)) (.done)) (.done)) (.done)) (.done)) (.done))) (.or 9 false [] (xo 94 (.bslice 2 1 false [(.int .i64 0)] [(0,(.c (V.int (-1)))),(1,(.c (V.int 3)))])) (.or 6 false [] (xo 91 (.bslice 3 1 false [(.string ⟨#[]⟩)] [(0,(.c (V.str []))),(1,(.c (V.str [110,111,110,101]))),(2,(.c (V.str [120,32,121])))])) (.or 7 true [6] (cl 92 QP [90,91]) (.or 10 true [9] (cl 95 QL [93,94]) (.or 11 false [10,9] (xo 96 (.bslice 1 1 false [(.int .i64 0)] [(0,(.t 95))])) (.or 12 false [11,10,9] (xo 97 (.build [(.slice none 0 0),(.slice none 0 0)] [(0,1,(.t 96))])) (.or 13 false [11,10,9,7,6] (xo 98 (.build [(.string ⟨#[]⟩),(.slice none 0 0),(.slice none 0 0)] [(0,1,(.t 92)),(1,2,(.t 97))])) (.one 14 false [11,10,9,7,6] (xo 99 (.obslice 1 3 true [(.string ⟨#[]⟩),(.slice none 0 0),(.slice none 0 0)] [(0,(.t 98))])) (.one 15 true [14,11,10,9,7,6] (xo 100 (.append 3 64 [(.string ⟨#[]⟩),(.slice none 0 0),(.slice none 0 0)] (.t 89) (.t 99))) (.one 16 false [] (nk 101 85) (.one 17 false [] (fa 102 2 101) (.one 18 true [15,14,11,10,9,7,6] (xs 1 102 100) (.done)))))) (.done)) (.done)) (.done)) (.done)) (.done)) (.done)) (.done))) (.or 6 false [] (xo 91 (.bslice 3 1 false [(.string ⟨#[]⟩)] [(0,(.c (V.str []))),(1,(.c (V.str [110,111,110,101]))),(2,(.c (V.str [120,32,121])))])) (.or 4 true [] (ld 89 1 88) (.or 7 true [6] (cl 92 QP [90,91]) (.or 9 false [] (xo 94 (.bslice 2 1 false [(.int .i64 0)] [(0,(.c (V.int (-1)))),(1,(.c (V.int 3)))])) (.or 10 true [9] (cl 95 QL [93,94]) (.or 11 false [10,9] (xo 96 (.bslice 1 1 false [(.int .i64 0)] [(0,(.t 95))])) (.or 12 false [11,10,9] (xo 97 (.build [(.slice none 0 0),(.slice none 0 0)] [(0,1,(.t 96))])) (.or 13 false [11,10,9,7,6] (xo 98 (.build [(.string ⟨#[]⟩),(.slice none 0 0),(.slice none 0 0)] [(0,1,(.t 92)),(1,2,(.t 97))])) (.one 14 false [11,10,9,7,6] (xo 99 (.obslice 1 3 true [(.string ⟨#[]⟩),(.slice none 0 0),(.slice none 0 0)] [(0,(.t 98))])) (.one 15 true [14,11,10,9,7,6] (xo 100 (.append 3 64 [(.string ⟨#[]⟩),(.slice none 0 0),(.slice none 0 0)] (.t 89) (.t 99))) (.one 16 false [] (nk 101 85) (.one 17 false [] (fa 102 2 101) (.one 18 true [15,14,11,10,9,7,6] (xs 1 102 100) (.done)))))) (.done)) (.done)) (.done)) (.done)) (.done)) (.or 9 false [] (xo 94 (.bslice 2 1 false [(.int .i64 0)] [(0,(.c (V.int (-1)))),(1,(.c (V.int 3)))])) (.or 7 true [6] (cl 92 QP [90,91]) (.or 10 true [9] (cl 95 QL [93,94]) (.or 11 false [10,9] (xo 96 (.bslice 1 1 false [(.int .i64 0)] [(0,(.t 95))])) (.or 12 false [11,10,9] (xo 97 (.build [(.slice none 0 0),(.slice none 0 0)] [(0,1,(.t 96))])) (.or 13 false [11,10,9,7,6] (xo 98 (.build [(.string ⟨#[]⟩),(.slice none 0 0),(.slice none 0 0)] [(0,1,(.t 92)),(1,2,(.t 97))])) (.one 14 false [11,10,9,7,6] (xo 99 (.obslice 1 3 true [(.string ⟨#[]⟩),(.slice none 0 0),(.slice none 0 0)] [(0,(.t 98))])) (.one 15 true [14,11,10,9,7,6] (xo 100 (.append 3 64 [(.string ⟨#[]⟩),(.slice none 0 0),(.slice none 0 0)] (.t 89) (.t 99))) (.one 16 false [] (nk 101 85) (.one 17 false [] (fa 102 2 101) (.one 18 true [15,14,11,10,9,7,6] (xs 1 102 100) (.done)))))) (.done)) (.done)) (.done)) (.done)) (.done)) (.done))) (.or 7 true [6] (cl 92 QP [90,91]) (.or 4 true [] (ld 89 1 88) (.or 9 false [] (xo 94 (.bslice 2 1 false [(.int .i64 0)] [(0,(.c (V.int (-1)))),(1,(.c (V.int 3)))])) (.or 10 true [9] (cl 95 QL [93,94]) (.or 11 false [10,9] (xo 96 (.bslice 1 1 false [(.int .i64 0)] [(0,(.t 95))])) (.or 12 false [11,10,9] (xo 97 (.build [(.slice none 0 0),(.slice none 0 0)] [(0,1,(.t 96))])) (.or 13 false [11,10,9,7,6] (xo 98 (.build [(.string ⟨#[]⟩),(.slice none 0 0),(.slice none 0 0)] [(0,1,(.t 92)),(1,2,(.t 97))])) (.one 14 false [11,10,9,7,6] (xo 99 (.obslice 1 3 true [(.string ⟨#[]⟩),(.slice none 0 0),(.slice none 0 0)] [(0,(.t 98))])) (.one 15 true [14,11,10,9,7,6] (xo 100 (.append 3 64 [(.string ⟨#[]⟩),(.slice none 0 0),(.slice none 0 0)] (.t 89) (.t 99))) (.one 16 false [] (nk 101 85) (.one 17 false [] (fa 102 2 101) (.one 18 true [15,14,11,10,9,7,6] (xs 1 102 100) (.done)))))) (.done)) (.done)) (.done)) (.done)) (.done)) (.or 9 false [] (xo 94 (.bslice 2 1 false [(.int .i64 0)] [(0,(.c (V.int (-1)))),(1,(.c (V.int 3)))])) (.or 4 true [] (ld 89 1 88) (.or 10 true [9] (cl 95 QL [93,94]) (.or 11 false [10,9] (xo 96 (.bslice 1 1 false [(.int .i64 0)] [(0,(.t 95))])) (.or 12 false [11,10,9] (xo 97 (.build [(.slice none 0 0),(.slice none 0 0)] [(0,1,(.t 96))])) (.or 13 false [11,10,9,7,6] (xo 98 (.build [(.string ⟨#[]⟩),(.slice none 0 0),(.slice none 0 0)] [(0,1,(.t 92)),(1,2,(.t 97))])) (.one 14 false [11,10,9,7,6] (xo 99 (.obslice 1 3 true [(.string ⟨#[]⟩),(.slice none 0 0),(.slice none 0 0)] [(0,(.t 98))])) (.one 15 true [14,11,10,9,7,6] (xo 100 (.append 3 64 [(.string ⟨#[]⟩),(.slice none 0 0),(.slice none 0 0)] (.t 89) (.t 99))) (.one 16 false [] (nk 101 85) (.one 17 false [] (fa 102 2 101) (.one 18 true [15,14,11,10,9,7,6] (xs 1 102 100) (.done)))))) (.done)) (.done)) (.done)) (.done)) (.or 10 true [9] (cl 95 QL [93,94]) (.one 4 true [] (ld 89 1 88) (.or 11 false [10,9] (xo 96 (.bslice 1 1 false [(.int .i64 0)] [(0,(.t 95))])) (.or 12 false [11,10,9] (xo 97 (.build [(.slice none 0 0),(.slice none 0 0)] [(0,1,(.t 96))])) (.or 13 false [11,10,9,7,6] (xo 98 (.build [(.string ⟨#[]⟩),(.slice none 0 0),(.slice none 0 0)] [(0,1,(.t 92)),(1,2,(.t 97))])) (.one 14 false [11,10,9,7,6] (xo 99 (.obslice 1 3 true [(.string ⟨#[]⟩),(.slice none 0 0),(.slice none 0 0)] [(0,(.t 98))])) (.one 15 true [14,11,10,9,7,6] (xo 100 (.append 3 64 [(.string ⟨#[]⟩),(.slice none 0 0),(.slice none 0 0)] (.t 89) (.t 99))) (.one 16 false [] (nk 101 85) (.one 17 false [] (fa 102 2 101) (.one 18 true [15,14,11,10,9,7,6] (xs 1 102 100) (.done)))))) (.done)) (.done)) (.done))) (.done))) (.done))) (.or 9 false [] (xo 94 (.bslice 2 1 false [(.int .i64 0)] [(0,(.c (V.int (-1)))),(1,(.c (V.int 3)))])) (.or 4 true [] (ld 89 1 88) (.or 7 true [6] (cl 92 QP [90,91]) (.or 10 true [9] (cl 95 QL [93,94]) (.or 11 false [10,9] (xo 96 (.bslice 1 1 false [(.int .i64 0)] [(0,(.t 95))])) (.or 12 false [11,10,9] (xo 97 (.build [(.slice none 0 0),(.slice none 0 0)] [(0,1,(.t 96))])) (.or 13 false [11,10,9,7,6] (xo 98 (.build [(.string ⟨#[]⟩),(.slice none 0 0),(.slice none 0 0)] [(0,1,(.t 92)),(1,2,(.t 97))])) (.one 14 false [11,10,9,7,6] (xo 99 (.obslice 1 3 true [(.string ⟨#[]⟩),(.slice none 0 0),(.slice none 0 0)] [(0,(.t 98))])) (.one 15 true [14,11,10,9,7,6] (xo 100 (.append 3 64 [(.string ⟨#[]⟩),(.slice none 0 0),(.slice none 0 0)] (.t 89) (.t 99))) (.one 16 false [] (nk 101 85) (.one 17 false [] (fa 102 2 101) (.one 18 true [15,14,11,10,9,7,6] (xs 1 102 100) (.done)))))) (.done)) (.done)) (.done)) (.done)) (.done)) (.or 7 true [6] (cl 92 QP [90,91]) (.or 4 true [] (ld 89 1 88) (.or 10 true [9] (cl 95 QL [93,94]) (.or 11 false [10,9] (xo 96 (.bslice 1 1 false [(.int .i64 0)] [(0,(.t 95))])) (.or 12 false [11,10,9] (xo 97 (.build [(.slice none 0 0),(.slice none 0 0)] [(0,1,(.t 96))])) (.or 13 false [11,10,9,7,6] (xo 98 (.build [(.string ⟨#[]⟩),(.slice none 0 0),(.slice none 0 0)] [(0,1,(.t 92)),(1,2,(.t 97))])) (.one 14 false [11,10,9,7,6] (xo 99 (.obslice 1 3 true [(.string ⟨#[]⟩),(.slice none 0 0),(.slice none 0 0)] [(0,(.t 98))])) (.one 15 true [14,11,10,9,7,6] (xo 100 (.append 3 64 [(.string ⟨#[]⟩),(.slice none 0 0),(.slice none 0 0)] (.t 89) (.t 99))) (.one 16 false [] (nk 101 85) (.one 17 false [] (fa 102 2 101) (.one 18 true [15,14,11,10,9,7,6] (xs 1 102 100) (.done)))))) (.done)) (.done)) (.done)) (.done)) (.or 10 true [9] (cl 95 QL [93,94]) (.one 4 true [] (ld 89 1 88) (.or 11 false [10,9] (xo 96 (.bslice 1 1 false [(.int .i64 0)] [(0,(.t 95))])) (.or 12 false [11,10,9] (xo 97 (.build [(.slice none 0 0),(.slice none 0 0)] [(0,1,(.t 96))])) (.or 13 false [11,10,9,7,6] (xo 98 (.build [(.string ⟨#[]⟩),(.slice none 0 0),(.slice none 0 0)] [(0,1,(.t 92)),(1,2,(.t 97))])) (.one 14 false [11,10,9,7,6] (xo 99 (.obslice 1 3 true [(.string ⟨#[]⟩),(.slice none 0 0),(.slice none 0 0)] [(0,(.t 98))])) (.one 15 true [14,11,10,9,7,6] (xo 100 (.append 3 64 [(.string ⟨#[]⟩),(.slice none 0 0),(.slice none 0 0)] (.t 89) (.t 99))) (.one 16 false [] (nk 101 85) (.one 17 false [] (fa 102 2 101) (.one 18 true [15,14,11,10,9,7,6] (xs 1 102 100) (.done)))))) (.done)) (.done)) (.done))) (.done))) (.done))) (.done)))) (.or 9 false [] (xo 94 (.bslice 2 1 false [(.int .i64 0)] [(0,(.c (V.int (-1)))),(1,(.c (V.int 3)))])) (.or 4 true [] (ld 89 1 88) (.or 6 false [] (xo 91 (.bslice 3 1 false [(.string ⟨#[]⟩)] [(0,(.c (V.str []))),(1,(.c (V.str [110,111,110,101]))),(2,(.c (V.str [120,32,121])))])) (.or 7 true [6] (cl 92 QP [90,91]) (.or 10 true [9] (cl 95 QL [93,94]) (.or 11 false [10,9] (xo 96 (.bslice 1 1 false [(.int .i64 0)] [(0,(.t 95))])) (.or 12 false [11,10,9] (xo 97 (.build [(.slice none 0 0),(.slice none 0 0)] [(0,1,(.t 96))])) (.or 13 false [11,10,9,7,6] (xo 98 (.build [(.string ⟨#[]⟩),(.slice none 0 0),(.slice none 0 0)] [(0,1,(.t 92)),(1,2,(.t 97))])) (.one 14 false [11,10,9,7,6] (xo 99 (.obslice 1 3 true [(.string ⟨#[]⟩),(.slice none 0 0),(.slice none 0 0)] [(0,(.t 98))])) (.one 15 true [14,11,10,9,7,6] (xo 100 (.append 3 64 [(.string ⟨#[]⟩),(.slice none 0 0),(.slice none 0 0)] (.t 89) (.t 99))) (.one 16 false [] (nk 101 85) (.one 17 false [] (fa 102 2 101) (.one 18 true [15,14,11,10,9,7,6] (xs 1 102 100) (.done)))))) (.done)) (.done)) (.done)) (.done)) (.done)) (.done)) (.or 6 false [] (xo 91 (.bslice 3 1 false [(.string ⟨#[]⟩)] [(0,(.c (V.str []))),(1,(.c (V.str [110,111,110,101]))),(2,(.c (V.str [120,32,121])))])) (.or 4 true [] (ld 89 1 88) (.or 7 true [6] (cl 92 QP [90,91]) (.or 10 true [9] (cl 95 QL [93,94]) (.or 11 false [10,9] (xo 96 (.bslice 1 1 false [(.int .i64 0)] [(0,(.t 95))])) (.or 12 false [11,10,9] (xo 97 (.build [(.slice none 0 0),(.slice none 0 0)] [(0,1,(.t 96))])) (.or 13 false [11,10,9,7,6] (xo 98 (.build [(.string ⟨#[]⟩),(.slice none 0 0),(.slice none 0 0)] [(0,1,(.t 92)),(1,2,(.t 97))])) (.one 14 false [11,10,9,7,6] (xo 99 (.obslice 1 3 true [(.string ⟨#[]⟩),(.slice none 0 0),(.slice none 0 0)] [(0,(.t 98))])) (.one 15 true [14,11,10,9,7,6] (xo 100 (.append 3 64 [(.string ⟨#[]⟩),(.slice none 0 0),(.slice none 0 0)] (.t 89) (.t 99))) (.one 16 false [] (nk 101 85) (.one 17 false [] (fa 102 2 101) (.one 18 true [15,14,11,10,9,7,6] (xs 1 102 100) (.done)))))) (.done)) (.done)) (.done)) (.done)) (.done)) (.or 7 true [6] (cl 92 QP [90,91]) (.or 4 true [] (ld 89 1 88) (.or 10 true [9] (cl 95 QL [93,94]) (.or 11 false [10,9] (xo 96 (.bslice 1 1 false [(.int .i64 0)] [(0,(.t 95))])) (.or 12 false [11,10,9] (xo 97 (.build [(.slice none 0 0),(.slice none 0 0)] [(0,1,(.t 96))])) (.or 13 false [11,10,9,7,6] (xo 98 (.build [(.string ⟨#[]⟩),(.slice none 0 0),(.slice none 0 0)] [(0,1,(.t 92)),(1,2,(.t 97))])) (.one 14 false [11,10,9,7,6] (xo 99 (.obslice 1 3 true [(.string ⟨#[]⟩),(.slice none 0 0),(.slice none 0 0)] [(0,(.t 98))])) (.one 15 true [14,11,10,9,7,6] (xo 100 (.append 3 64 [(.string ⟨#[]⟩),(.slice none 0 0),(.slice none 0 0)] (.t 89) (.t 99))) (.one 16 false [] (nk 101 85) (.one 17 false [] (fa 102 2 101) (.one 18 true [15,14,11,10,9,7,6] (xs 1 102 100) (.done)))))) (.done)) (.done)) (.done)) (.done)) (.or 10 true [9] (cl 95 QL [93,94]) (.one 4 true [] (ld 89 1 88) (.or 11 false [10,9] (xo 96 (.bslice 1 1 false [(.int .i64 0)] [(0,(.t 95))])) (.or 12 false [11,10,9] (xo 97 (.build [(.slice none 0 0),(.slice none 0 0)] [(0,1,(.t 96))])) (.or 13 false [11,10,9,7,6] (xo 98 (.build [(.string ⟨#[]⟩),(.slice none 0 0),(.slice none 0 0)] [(0,1,(.t 92)),(1,2,(.t 97))])) (.one 14 false [11,10,9,7,6] (xo 99 (.obslice 1 3 true [(.string ⟨#[]⟩),(.slice none 0 0),(.slice none 0 0)] [(0,(.t 98))])) (.one 15 true [14,11,10,9,7,6] (xo 100 (.append 3 64 [(.string ⟨#[]⟩),(.slice none 0 0),(.slice none 0 0)] (.t 89) (.t 99))) (.one 16 false [] (nk 101 85) (.one 17 false [] (fa 102 2 101) (.one 18 true [15,14,11,10,9,7,6] (xs 1 102 100) (.done)))))) (.done)) (.done)) (.done))) (.done))) (.done))) (.done))) (.done)))))))))
theorem Ji (QP QL:Nat):okR (xv QP QL) xK [4,7,10] xp = true:=by kernel_rfl
theorem Jf (QP QL:Nat):Ww (ris (xv QP QL) xK [4,7,10]) xp = Yb QP QL:=by kernel_rfl def c_law12_list (JX JG Qr Jr QP QL:Nat):AC:=Qo [0] (.reg [xo 2 (.mknil 3)]) (Qo [0,3] (.reg [xo 9 (.bslice 5 1 false [(.string ⟨#[]⟩)] [(0,(.c (V.str [97,112,112]))),(1,(.c (V.str [99,114,121,112,116]))),(2,(.c (V.str [108,105,98]))),(3,(.c (V.str [115,115,108]))),(4,(.c (V.str [122,105,112])))]),mv 3 9]) (Qo [0,3,4] (.reg [xo 4 (.mknil 3)]) (Qo [0,4] (Qo [0,3,4,5] (.reg [mc 5 (V.int 0)]) (.block 0 (X1 [0,3,4,5] (Qo [0,3,4,5] (Qo [0,3,4,5,13] (.reg [mv 10 5,mv 11 3,ln 12 11,bn 13 .lss 10 12]) (.cond (.t 13) (.skip) (.exit 0))) (Qo [0,3,4,5] (.block 1 (Qo [0,3,4,5] (Qo [0,3,4,5,17] (.reg [mv 16 0,xo 17 (.call JX [(.t 16),(.c (V.int 4))])]) (.cond (.t 17) (.exit 1) (.skip))) (Qo [0,3,4,5,6] (ach [5] xr (Yd JG) (xx JG) xM) (Qo [0,3,4,5,6] (Qo [0,3,4,5,6,7] (.reg [mv 25 0,xo 26 (.call Qr [(.t 25),(.c (V.int 3))]),mv 7 26]) (.block 2 (X1 [0,3,4,5,6,7] (Qo [0,3,4,5,6,7] (Qo [0,3,4,5,6,7,28] (.reg [mv 27 7,bc 28 .gtr 27 (V.int 0)]) (.cond (.t 28) (.skip) (.exit 2))) (Qo [0,3,4,5,6,7] (.block 3 (ach [1,6,7,8,10] xq (Yc Qr Jr) (xw Qr Jr) xL)) (.reg [mv 29 7,bc 30 .sub 29 (V.int 1),mv 7 30])))))) (.reg [mv 46 4,xo 47 (.load true 3 (.t 6)),xo 48 (.obslice 1 3 true [(.string ⟨#[]⟩),(.slice none 0 0),(.slice none 0 0)] [(0,(.t 47))]),xo 49 (.append 3 64 [(.string ⟨#[]⟩),(.slice none 0 0),(.slice none 0 0)] (.t 46) (.t 48)),mv 4 49]))))) (.reg [mv 14 5,bc 15 .add 14 (V.int 1),mv 5 15])))))) (Qo [0,4] (Qo [0,4,52] (.reg [mv 50 4,ln 51 50,bc 52 .eql 51 (V.int 0)]) (.cond (.t 52) (Qo [2] (.reg [mv 53 4,mv 2 53]) (.ret)) (.skip))) (Qo [0,4,8] (.reg [mv 54 4,mv 55 0,mv 56 4,ln 57 56,cl 58 Qr [55,57],ia 59 3 54 58,mv 8 59]) (Qo [4] (Qo [0,4,8,61] (.reg [mv 60 0,xo 61 (.call Qr [(.t 60),(.c (V.int 16))])]) (.block 4 (Qo [0,4,8,61,62] (.reg [bc 63 .eql 61 (V.int 0),mv 62 63]) (.cond (.t 62) (.reg [mv 64 8,mv 65 0,xo 66 (.bslice 3 1 false [(.string ⟨#[]⟩)] [(0,(.c (V.str []))),(1,(.c (V.str [97,32,98]))),(2,(.c (V.str [97,112,112])))]),cl 67 QP [65,66],nk 68 64,fa 69 0 68,xs 1 69 67]) (Qo [0,4,8,61,70] (.reg [bc 71 .eql 61 (V.int 1),mv 70 71]) (.cond (.t 70) (.reg [mv 72 8,xo 73 (.bslice 1 1 false [(.int .i64 0)] [(0,(.c (V.int (-1))))]),xo 74 (.bslice 5 1 false [(.int .i64 0)] [(0,(.c (V.int 1))),(1,(.c (V.int 2))),(2,(.c (V.int 3))),(3,(.c (V.int 4))),(4,(.c (V.int 5)))]),xo 75 (.bslice 1 1 false [(.int .i64 0)] [(0,(.c (V.int 100000)))]),xo 76 (.obslice 4 1 false [(.slice none 0 0)] [(0,(.c (.sc (.slice none 0 0)))),(1,(.t 73)),(2,(.t 74)),(3,(.t 75))]),mv 77 0,xo 78 (.call Qr [(.t 77),(.c (V.int 4))]),ia 79 1 76 78,ld 80 1 79,nk 81 72,fa 82 1 81,xs 1 82 80]) (Qo [0,4,8,61,83] (.reg [bc 84 .eql 61 (V.int 2),mv 83 84]) (.cond (.t 83) (ach [4,7,10] xp (Yb QP QL) (xv QP QL) xK) (Qo [4,8,103] (.reg [bc 104 .eql 61 (V.int 3),mv 103 104]) (.cond (.t 103) (.reg [mv 105 8,xo 106 (.mkslice 3 64 true [(.string ⟨#[]⟩),(.slice none 0 0),(.slice none 0 0)] (.c (V.int 9)) (.c (V.int 9))),nk 107 105,fa 108 2 107,xs 1 108 106]) (.skip))))))))))) (Qo [2] (.reg [mv 109 4,mv 2 109]) (.ret)))))))) def r_law12_list:List X0:=[.tmp 2]
def wX (Γ:Env) (f:Nat):Prop:=∀ (l:List Int) (k:Nat) (hl:l.length≤400) (hk:k≤l.length),EvP Γ f [.ptr 0 0] [.box true (J3 l k)] (alW l)
theorem agM {Γ:Env} {f JX JG Qr Jr QP QL:Nat} (h:Has Γ.P f 110 (c_law12_list JX JG Qr Jr QP QL) r_law12_list) (Qq:VX Γ JX) (QU:KB Γ JG) (Qk:Y3 Γ Qr) (QF:jG Γ Jr) (Qp:VE Γ QP) (QG:Uv Γ QL):wX Γ f:=by
  intro l k hl hk
  refine aba h (by simp) fun C hC hm=>?_
  subst hC
  have hm:C.m = 1:=by simpa using hm
  unfold c_law12_list
  refine ah0 ?_
  refine Qb fun K' hK=>?_
  simp (maxSteps:=1000000) only [go_sem]
  refine hK _ ?_
  clear hK
  clear K'
  (try simp only [go_sem])
  refine Qb fun K' hK=>?_
  simp (maxSteps:=1000000) only [go_sem]
  refine hK _ ?_
  clear hK
  clear K'
  (try simp only [go_sem])
  refine Qb fun K' hK=>?_
  simp (maxSteps:=1000000) only [go_sem]
  refine hK _ ?_
  clear hK
  clear K'
  (try simp only [go_sem])
  refine ad7 (ι:=List Qu×Nat) (fun q=>ana q.1∧q.2≤l.length) (fun q=>aaz l q.1 q.2) (fun K' hK'=>?_) (fun q hq=>?_)
  · repeat' (first|refine Qb fun K' hK=>?_|refine Qe fun K' hK=>?_|refine Ql 9 (fun y=>!decide (y = 0)) rfl (Jk _) (Jh _) fun K' hK=>?_|refine Qm 9 (fun y=>!decide (y = 0)) rfl (Jk _) (Jh _) fun K' hK=>?_|refine Ql 16 (fun y=>!decide (y = 0) && !decide (y = 3) && !decide (y = 4)) rfl (Jj _ _) (Jg _ _) fun K' hK=>?_|refine Qm 16 (fun y=>!decide (y = 0) && !decide (y = 3) && !decide (y = 4)) rfl (Jj _ _) (Jg _ _) fun K' hK=>?_|refine Ql 19 (fun _=>false) rfl (Ji _ _) (Jf _ _) fun K' hK=>?_|refine Qm 19 (fun _=>false) rfl (Ji _ _) (Jf _ _) fun K' hK=>?_|refine Qc ?_|refine Qd ?_|refine Qa ?_|((first|refine Qg ⟨_,rfl,fun hc=>?_,fun hc=>?_⟩|refine Qs (fun hc=>?_) (fun hc=>?_)|refine Qt (fun hc=>?_) (fun hc=>?_))<;>first|(cases hc;done)|((try simp only [znz] at hc);first|exact znf|skip))|refine Qi ?_|refine Qf ?_|simp (maxSteps:=1000000) only [go_sem,Yd,Yc,Yb]|(refine hK _ ?_;clear hK K')|apply And.intro|(apply XQ;(focus exact rfl);(focus first|exact (Qq _ _ _ zsd zsd zsd zsd)|exact (QU _ _ zsd zsd)|exact (Qk _ _ _ zsd zsd)|exact (QF _ _ zsd zsd)|exact (Qp _ _ _ zsd zsd zsd zsd)|exact (QG _ _ _ zsd zsd zsd zsd));(focus exact rfl);(focus exact rfl))|(apply WP;(focus exact rfl);(focus first|exact rfl|decide);(focus first|exact rfl|decide);(focus first|exact (Qq _ _ _ zsd zsd zsd zsd)|exact (QU _ _ zsd zsd)|exact (Qk _ _ _ zsd zsd)|exact (QF _ _ zsd zsd)|exact (Qp _ _ _ zsd zsd zsd zsd)|exact (QG _ _ _ zsd zsd zsd zsd));(focus exact rfl);(focus exact rfl);(focus first|exact rfl|decide))|exact zlo|omega|exact zms)
    refine JR (ι:=List Qu×Nat×Nat) (fun q=>ana q.1∧q.1.length≤q.2.2∧q.2.1≤l.length∧q.2.2≤5) (fun q=>ajs l q.1 q.2.1 q.2.2) (fun q=>6 - q.2.2) ([],k,0) ⟨⟨by simp,by simp⟩,by simp,hk,by simp⟩ (QO [(1,1001),(2,3001)])
      (U0 [(1,1001),(2,3001)] (by simp only [go_sem,and_true,true_and,implies_true,Option.some.injEq,exists_eq_left',Qh,Qj];(repeat' (first|rfl|apply And.intro|omega|exact fun h=>h|exact Exists.intro _ rfl))) (by simp only [go_sem,and_true,true_and,implies_true,Option.some.injEq,exists_eq_left',Qh,Qj];(repeat' (first|rfl|apply And.intro|omega|exact fun h=>h|exact Exists.intro _ rfl));all_goals first|exact trivial|(refine Ku _ _ ?_;simp only [V.closed])) (by simp [Km]) (by omega) (by simp [Km]) (fun a b _ _=>by simp only [QO];(repeat' split)<;>omega) (by simp;omega) (by omega)) fun q hq K2 hK2=>?_
    obtain ⟨ps,k1,i⟩:=q
    obtain ⟨hok,hlen,hk1,hi5⟩:=hq
    dsimp only at hok hlen hk1 hi5
    by_cases hi:i = 5
    · subst hi
      repeat' (first|refine Qb fun K' hK=>?_|refine Qe fun K' hK=>?_|refine Ql 9 (fun y=>!decide (y = 0)) rfl (Jk _) (Jh _) fun K' hK=>?_|refine Qm 9 (fun y=>!decide (y = 0)) rfl (Jk _) (Jh _) fun K' hK=>?_|refine Ql 16 (fun y=>!decide (y = 0) && !decide (y = 3) && !decide (y = 4)) rfl (Jj _ _) (Jg _ _) fun K' hK=>?_|refine Qm 16 (fun y=>!decide (y = 0) && !decide (y = 3) && !decide (y = 4)) rfl (Jj _ _) (Jg _ _) fun K' hK=>?_|refine Ql 19 (fun _=>false) rfl (Ji _ _) (Jf _ _) fun K' hK=>?_|refine Qm 19 (fun _=>false) rfl (Ji _ _) (Jf _ _) fun K' hK=>?_|refine Qc ?_|refine Qd ?_|refine Qa ?_|((first|refine Qg ⟨_,rfl,fun hc=>?_,fun hc=>?_⟩|refine Qs (fun hc=>?_) (fun hc=>?_)|refine Qt (fun hc=>?_) (fun hc=>?_))<;>first|(cases hc;done)|((try simp only [znz] at hc);first|exact znf|skip))|refine Qi ?_|refine Qf ?_|simp (maxSteps:=1000000) only [go_sem,ajs,KH,W5,Yd,Yc,Yb]|(refine hK _ ?_;clear hK K')|apply And.intro|(apply XQ;(focus exact rfl);(focus first|exact (Qq _ _ _ zsd zsd zsd zsd)|exact (QU _ _ zsd zsd)|exact (Qk _ _ _ zsd zsd)|exact (QF _ _ zsd zsd)|exact (Qp _ _ _ zsd zsd zsd zsd)|exact (QG _ _ _ zsd zsd zsd zsd));(focus exact rfl);(focus exact rfl))|(apply WP;(focus exact rfl);(focus first|exact rfl|decide);(focus first|exact rfl|decide);(focus first|exact (Qq _ _ _ zsd zsd zsd zsd)|exact (QU _ _ zsd zsd)|exact (Qk _ _ _ zsd zsd)|exact (QF _ _ zsd zsd)|exact (Qp _ _ _ zsd zsd zsd zsd)|exact (QG _ _ _ zsd zsd zsd zsd));(focus exact rfl);(focus exact rfl);(focus first|exact rfl|decide))|exact zlo|omega|exact zms)
      refine hK' _ (ps,k1) (QO []) ⟨hok,hk1⟩ (U0 [] (by simp only [go_sem,and_true,true_and,implies_true,Option.some.injEq,exists_eq_left',Qh,Qj];(repeat' (first|rfl|apply And.intro|omega|exact fun h=>h|exact Exists.intro _ rfl))) (fun p hp=>?_) (aby fun i _=>by simp only [QO,St.keep,Xl]) (by omega) (by rw [jH];show 100 + ps.length≤200;omega) (fun a b _ _ h=>h) (by simp) (by omega))
      simp only [List.mem_cons,List.not_mem_nil,or_false] at hp
      rcases hp with rfl|rfl
      · exact ⟨_,rfl,yA⟩
      · exact ⟨_,rfl,ad2 (fun _ _=>rfl) (by omega)⟩
    · have e1:decide ((i:Int) < 5) = true:=decide_eq_true (by omega)
      have n1:=Qq l k1 4 hl hk1 (by omega) (by omega)
      have hk2:=Wu (l:=l) (k:=k1) (n:=4) hk1
      generalize Yz l k1 4 = w at *
      obtain ⟨x,k2⟩:=w
      simp only [J3] at n1 hk2 ⊢
      cases hx:(x == 4 - 1)
      · obtain ⟨nm,hnm,hnl⟩:=afX (show i < 5 by omega)
        have hnv:alO[i]? = some (V.str nm):=by show (ajm.map V.str)[i]? = _;rw [List.getElem?_map,hnm];rfl
        have n2:=QU l k2 hl hk2
        have hk3:=ak3 (l:=l) hk2
        have hv4:=(abl (ak2 l k2)).2.1
        generalize aia l k2 = u at *
        obtain ⟨ver,k3⟩:=u
        have n3:=Qk l k3 3 hl hk3
        have hk4:=Wu (l:=l) (k:=k3) (n:=3) hk3
        have hr3:=Xr (l:=l) (k:=k3) (n:=3) (by omega) (by omega)
        generalize Yz l k3 3 = w at *
        obtain ⟨c0,k4⟩:=w
        simp only [J3] at n2 n3 hk3 hk4 hv4 hr3 ⊢
        obtain ⟨c0,rfl⟩:∃ j:Nat,c0 = (j:Int):=⟨c0.toNat,by omega⟩
        repeat' (first|refine Qb fun K' hK=>?_|refine Qe fun K' hK=>?_|refine Ql 9 (fun y=>!decide (y = 0)) rfl (Jk _) (Jh _) fun K' hK=>?_|refine Qm 9 (fun y=>!decide (y = 0)) rfl (Jk _) (Jh _) fun K' hK=>?_|refine Ql 16 (fun y=>!decide (y = 0) && !decide (y = 3) && !decide (y = 4)) rfl (Jj _ _) (Jg _ _) fun K' hK=>?_|refine Qm 16 (fun y=>!decide (y = 0) && !decide (y = 3) && !decide (y = 4)) rfl (Jj _ _) (Jg _ _) fun K' hK=>?_|refine Ql 19 (fun _=>false) rfl (Ji _ _) (Jf _ _) fun K' hK=>?_|refine Qm 19 (fun _=>false) rfl (Ji _ _) (Jf _ _) fun K' hK=>?_|refine Qc ?_|refine Qd ?_|refine Qa ?_|((first|refine Qg ⟨_,rfl,fun hc=>?_,fun hc=>?_⟩|refine Qs (fun hc=>?_) (fun hc=>?_)|refine Qt (fun hc=>?_) (fun hc=>?_))<;>first|(cases hc;done)|((try simp only [znz] at hc);first|exact znf|skip))|refine Qi ?_|refine Qf ?_|simp (maxSteps:=1000000) only [go_sem,ajs,KH,W5,e1,hx,hnv,J3,Yd,Yc,Yb]|(refine hK _ ?_;clear hK K')|apply And.intro|(apply XQ;(focus exact rfl);(focus first|exact n1|exact n2|exact n3|exact (Qq _ _ _ zsd zsd zsd zsd)|exact (QU _ _ zsd zsd)|exact (Qk _ _ _ zsd zsd)|exact (QF _ _ zsd zsd)|exact (Qp _ _ _ zsd zsd zsd zsd)|exact (QG _ _ _ zsd zsd zsd zsd));(focus exact rfl);(focus exact rfl))|(apply WP;(focus exact rfl);(focus first|exact rfl|decide);(focus first|exact rfl|decide);(focus first|exact n1|exact n2|exact n3|exact (Qq _ _ _ zsd zsd zsd zsd)|exact (QU _ _ zsd zsd)|exact (Qk _ _ _ zsd zsd)|exact (QF _ _ zsd zsd)|exact (Qp _ _ _ zsd zsd zsd zsd)|exact (QG _ _ _ zsd zsd zsd zsd));(focus exact rfl);(focus exact rfl);(focus first|exact rfl|decide))|exact zlo|omega|exact zms)
        refine ah1 13200 2 3 rfl rfl ?_
        refine JR (ι:=List JS×Nat×Nat) (fun q=>(∀ x∈q.1,alM x)∧q.1.length + q.2.2≤3∧q.2.1≤l.length) (fun q=>alL l ps nm ver q.1 q.2.1 i q.2.2) (fun q=>q.2.2) ([],k4,c0) ⟨by simp,by simp;omega,hk4⟩ (QO [(3,13200),(4,18200)])
          (U0 [(3,13200),(4,18200)] (fun p hp=>?_) (fun p hp=>?_) (aby fun j hj=>?_) (by omega) (by rw [jH];omega) (fun a b _ _=>by simp only [QO];(repeat' split)<;>omega) (by simp;omega) (by omega)) fun q hq K3 hK3=>?_
        · simp only [List.mem_cons,List.not_mem_nil,or_false] at hp
          rcases hp with rfl|rfl|rfl|rfl|rfl|rfl
          · exact ⟨rfl,by show 0 < 200;omega⟩
          · exact ⟨rfl,by show 1 < 200;omega⟩
          · exact ⟨rfl,by show 2 < 200;omega⟩
          · exact ⟨rfl,trivial⟩
          · exact ⟨rfl,by show 3 < 200;omega⟩
          · exact ⟨rfl,trivial⟩
        · simp only [List.mem_cons,List.not_mem_nil,or_false] at hp
          rcases hp with rfl|rfl|rfl|rfl|rfl
          · exact ⟨_,rfl,yA⟩
          · exact ⟨_,rfl,id,rfl,rfl⟩
          · exact ⟨_,rfl,ad2 (fun j hj=>by simp only [QO];rw [if_neg (by omega),if_neg (by omega)]) (by omega)⟩
          · exact ⟨_,rfl,id,rfl,trivial,Ku _ _ (by simp only [V.closed]),(by show 4 < 200;omega),trivial⟩
          · exact ⟨_,rfl,id,rfl,rfl⟩
        · have e5:QO [(3,13200),(4,18200)] (100 + j) = 100 + j:=by simp only [QO];rw [if_neg (by omega),if_neg (by omega)]
          rw [e5]
          iterate 9 refine (JB _ _ (by first|omega|(show _≠18200;omega))).trans ?_
          exact Xl
        obtain ⟨ns,k5,c⟩:=q
        obtain ⟨hns,hnc,hk5⟩:=hq
        dsimp only at hns hnc hk5
        rcases c with _|c
        · repeat' (first|refine Qb fun K' hK=>?_|refine Qe fun K' hK=>?_|refine Ql 9 (fun y=>!decide (y = 0)) rfl (Jk _) (Jh _) fun K' hK=>?_|refine Qm 9 (fun y=>!decide (y = 0)) rfl (Jk _) (Jh _) fun K' hK=>?_|refine Ql 16 (fun y=>!decide (y = 0) && !decide (y = 3) && !decide (y = 4)) rfl (Jj _ _) (Jg _ _) fun K' hK=>?_|refine Qm 16 (fun y=>!decide (y = 0) && !decide (y = 3) && !decide (y = 4)) rfl (Jj _ _) (Jg _ _) fun K' hK=>?_|refine Ql 19 (fun _=>false) rfl (Ji _ _) (Jf _ _) fun K' hK=>?_|refine Qm 19 (fun _=>false) rfl (Ji _ _) (Jf _ _) fun K' hK=>?_|refine Qc ?_|refine Qd ?_|refine Qa ?_|((first|refine Qg ⟨_,rfl,fun hc=>?_,fun hc=>?_⟩|refine Qs (fun hc=>?_) (fun hc=>?_)|refine Qt (fun hc=>?_) (fun hc=>?_))<;>first|(cases hc;done)|((try simp only [znz] at hc);first|exact znf|skip))|refine Qi ?_|refine Qf ?_|simp (maxSteps:=1000000) only [go_sem,alL,KH,W5,Yd,Yc,Yb]|(refine hK _ ?_;clear hK K')|apply And.intro|(apply XQ;(focus exact rfl);(focus first|exact (Qq _ _ _ zsd zsd zsd zsd)|exact (QU _ _ zsd zsd)|exact (Qk _ _ _ zsd zsd)|exact (QF _ _ zsd zsd)|exact (Qp _ _ _ zsd zsd zsd zsd)|exact (QG _ _ _ zsd zsd zsd zsd));(focus exact rfl);(focus exact rfl))|(apply WP;(focus exact rfl);(focus first|exact rfl|decide);(focus first|exact rfl|decide);(focus first|exact (Qq _ _ _ zsd zsd zsd zsd)|exact (QU _ _ zsd zsd)|exact (Qk _ _ _ zsd zsd)|exact (QF _ _ zsd zsd)|exact (Qp _ _ _ zsd zsd zsd zsd)|exact (QG _ _ _ zsd zsd zsd zsd));(focus exact rfl);(focus exact rfl);(focus first|exact rfl|decide))|exact zlo|omega|exact zms)
          have ew:IntKind.i64.wrap ((i:Int) + 1) = ((i + 1:Nat):Int):=by rw [WW (by omega) (by omega)];omega
          rw [ew]
          have hp:apc ⟨nm,ver,ns⟩:=⟨hnl,(by show ver.length≤5;omega),(by show ns.length≤3;omega),hns⟩
          have tz:∀ a,a≠2→a≠100 + ps.length→a≠4→QO [(2,5200),(100 + ps.length,4),(4,9999)] a = a:=fun a h1 h2 h3=>by
            simp only [QO];rw [if_neg (by omega),if_neg (by omega),if_neg (by omega)]
          have tn:QO [(2,5200),(100 + ps.length,4),(4,9999)] (100 + ps.length) = 4:=by
            simp only [QO];rw [if_neg (by omega)];simp
          refine hK2 _ (ps++[⟨nm,ver,ns⟩],k5,i + 1) (QO [(2,5200),(100 + ps.length,4),(4,9999)]) ⟨⟨(by simp;omega),fun p hpm=>(by
              rcases List.mem_append.1 hpm with h1|h1
              · exact hok.2 p h1
              · rw [List.mem_singleton.1 h1];exact hp)⟩,(by simp;omega),hk5,(by show i + 1≤5;omega)⟩ (by show 6 - (i + 1) < 6 - i;omega)
            (U0 [(2,5200),(100 + ps.length,4),(4,9999)] (fun p hpm=>?_) (fun p hpm=>?_) (aby fun j hj=>?_) (by omega) (by rw [jH];simp;omega) (fun a b _ _=>by simp only [QO];(repeat' split)<;>omega) (by simp;omega) (by omega))
          · simp only [List.mem_cons,List.not_mem_nil,or_false] at hpm
            rcases hpm with rfl|rfl|rfl|rfl
            · refine ⟨?_,?_⟩
              · show V.ptr 0 0 = V.ptr (QO _ 0) 0;rw [tz 0 (by omega) (by omega) (by omega)]
              · show 0 < 200;omega
            · refine ⟨?_,?_⟩
              · show V.hd 1 0 5 = V.hd (QO _ 1) 0 5;rw [tz 1 (by omega) (by omega) (by omega)]
              · show 1 < 200;omega
            · refine ⟨?_,?_⟩
              · show V.hd 5200 0 (ps.length + 1) = V.hd 5200 0 (ps++[_]).length;simp
              · show 2 < 200;omega
            · exact ⟨rfl,trivial⟩
          · simp only [List.mem_cons,List.not_mem_nil,or_false] at hpm
            rcases hpm with rfl|rfl|rfl
            · refine ⟨_,?_,yA (l:=l) (k:=k5)⟩
              simp only [tz 0 (by omega) (by omega) (by omega)];rfl
            · refine ⟨.buf true 1 alO,?_,id,rfl,rfl⟩
              simp only [tz 1 (by omega) (by omega) (by omega)];rfl
            · refine ⟨_,rfl,id,rfl,?_,aip _ _ _ (by simp;omega)⟩
              rw [aje,List.take_of_length_le (by rw [V7];omega)]
              rw [show ∀ (τ:Nat→Nat) (xs ys:List V),qU τ (xs++ys) = qU τ xs++qU τ ys from fun τ xs ys=>by induction xs with|nil=>rfl|cons x xs ih=>simp only [List.cons_append,qU,ih]]
              rw [agp ps 100 (fun j hj=>tz (100 + j) (by omega) (by omega) (by omega))]
              simp only [qU,Qu.own,V.ren,tn]
          · by_cases hj2:j = ps.length
            · subst hj2
              rw [tn]
              have e6:(Km (ps++[⟨nm,ver,ns⟩]))[ps.length]? = some (.buf true 3 (ns.map JS.v)):=by simp [Km]
              rw [e6];rfl
            · have hj3:j < ps.length:=by simp at hj;omega
              rw [tz (100 + j) (by omega) (by omega) (by omega)]
              iterate 3 refine (JB _ _ (by omega)).trans ?_
              refine Xl.trans ?_
              simp only [Km,List.map_append]
              rw [List.getElem?_append_left (by simpa using hj3)]
        · have e2:decide (((c + 1:Nat):Int) > 0) = true:=decide_eq_true (by omega)
          have ew:IntKind.i64.wrap (((c + 1:Nat):Int) - 1) = (c:Int):=by rw [WW (by omega) (by omega)];omega
          have n4:=Qk l k5 5 hl hk5
          have hk6:=Wu (l:=l) (k:=k5) (n:=5) hk5
          have hr6:=Xr (l:=l) (k:=k5) (n:=5) (by omega) (by omega)
          generalize Yz l k5 5 = w2 at *
          obtain ⟨x6,k6⟩:=w2
          obtain ⟨x6,rfl⟩:∃ j:Nat,x6 = (j:Int):=⟨x6.toNat,by simp only at hr6;omega⟩
          simp only at hk6 hr6
          obtain ⟨mn,hmn,hml⟩:=afX (show x6 < 5 by omega)
          have hmv:alO[x6]? = some (V.str mn):=by show (ajm.map V.str)[x6]? = _;rw [List.getElem?_map,hmn];rfl
          have n5:=QF l k6 hl hk6
          have hk7:=abK (l:=l) (abK (l:=l) hk6)
          have hb1:=abJ l k6
          have hb2:=abJ l (qS l k6).2
          simp only [agd,ye] at n5
          generalize (qS l (qS l k6).2) = w3 at *
          generalize (qS l k6) = w4 at *
          obtain ⟨up,k7⟩:=w3
          obtain ⟨lo,k8⟩:=w4
          simp only [J3] at n4 n5 hk7 hb1 hb2 ⊢
          have hbk:List.take ns.length (ns.map JS.v)++[V.agg [V.str mn,V.sl 1 (lo.map V.int),V.sl 1 (up.map V.int)]] = (ns++[(⟨mn,lo,up⟩:JS)]).map JS.v:=by
            rw [List.take_of_length_le (by simp),List.map_append];rfl
          repeat' (first|refine Qb fun K' hK=>?_|refine Qe fun K' hK=>?_|refine Ql 9 (fun y=>!decide (y = 0)) rfl (Jk _) (Jh _) fun K' hK=>?_|refine Qm 9 (fun y=>!decide (y = 0)) rfl (Jk _) (Jh _) fun K' hK=>?_|refine Ql 16 (fun y=>!decide (y = 0) && !decide (y = 3) && !decide (y = 4)) rfl (Jj _ _) (Jg _ _) fun K' hK=>?_|refine Qm 16 (fun y=>!decide (y = 0) && !decide (y = 3) && !decide (y = 4)) rfl (Jj _ _) (Jg _ _) fun K' hK=>?_|refine Ql 19 (fun _=>false) rfl (Ji _ _) (Jf _ _) fun K' hK=>?_|refine Qm 19 (fun _=>false) rfl (Ji _ _) (Jf _ _) fun K' hK=>?_|refine Qc ?_|refine Qd ?_|refine Qa ?_|((first|refine Qg ⟨_,rfl,fun hc=>?_,fun hc=>?_⟩|refine Qs (fun hc=>?_) (fun hc=>?_)|refine Qt (fun hc=>?_) (fun hc=>?_))<;>first|(cases hc;done)|((try simp only [znz] at hc);first|exact znf|skip))|refine Qi ?_|refine Qf ?_|simp (maxSteps:=1000000) only [go_sem,alL,KH,W5,e2,ew,hmv,J3,Yd,Yc,Yb]|(refine hK _ ?_;clear hK K')|apply And.intro|(apply XQ;(focus exact rfl);(focus first|exact n4|exact n5|exact (Qq _ _ _ zsd zsd zsd zsd)|exact (QU _ _ zsd zsd)|exact (Qk _ _ _ zsd zsd)|exact (QF _ _ zsd zsd)|exact (Qp _ _ _ zsd zsd zsd zsd)|exact (QG _ _ _ zsd zsd zsd zsd));(focus exact rfl);(focus exact rfl))|(apply WP;(focus exact rfl);(focus first|exact rfl|decide);(focus first|exact rfl|decide);(focus first|exact n4|exact n5|exact (Qq _ _ _ zsd zsd zsd zsd)|exact (QU _ _ zsd zsd)|exact (Qk _ _ _ zsd zsd)|exact (QF _ _ zsd zsd)|exact (Qp _ _ _ zsd zsd zsd zsd)|exact (QG _ _ _ zsd zsd zsd zsd));(focus exact rfl);(focus exact rfl);(focus first|exact rfl|decide))|exact zlo|omega|exact zms)
          all_goals
            refine hK3 _ (ns++[⟨mn,lo,up⟩],k7,c) (QO [(4,15200)]) ⟨fun x hxm=>(by
                rcases List.mem_append.1 hxm with h1|h1
                · exact hns x h1
                · rw [List.mem_singleton.1 h1];exact ⟨hml,hb1,hb2⟩),(by simp;omega),hk7⟩ (by show c < c + 1;omega)
              (U0 [(4,15200)] (fun p hp=>?_) (fun p hp=>?_) (aby fun j hj=>?_) (by omega) (by rw [jH];omega) (fun a b _ _=>by simp only [QO];(repeat' split)<;>omega) (by simp;omega) (by omega))
            · simp only [List.mem_cons,List.not_mem_nil,or_false] at hp
              rcases hp with rfl|rfl|rfl|rfl|rfl|rfl
              · exact ⟨rfl,by show 0 < 200;omega⟩
              · exact ⟨rfl,by show 1 < 200;omega⟩
              · exact ⟨rfl,by show 2 < 200;omega⟩
              · exact ⟨rfl,trivial⟩
              · exact ⟨rfl,by show 3 < 200;omega⟩
              · exact ⟨rfl,trivial⟩
            · simp only [List.mem_cons,List.not_mem_nil,or_false] at hp
              rcases hp with rfl|rfl|rfl|rfl|rfl
              · exact ⟨_,rfl,yA⟩
              · exact ⟨_,rfl,id,rfl,rfl⟩
              · exact ⟨_,rfl,ad2 (fun j hj=>by simp only [QO];rw [if_neg (by omega)]) (by omega)⟩
              · exact ⟨_,rfl,id,(by show [_,_,V.hd 15200 0 (ns.length + 1)] = [_,_,V.hd 15200 0 (ns++[_]).length];rw [List.length_append];rfl),trivial,Ku _ _ (by simp only [V.closed]),(by show 4 < 200;omega),trivial⟩
              · exact ⟨_,rfl,id,rfl,hbk,aaO _⟩
            · have e5:QO [(4,15200)] (100 + j) = 100 + j:=by simp only [QO];rw [if_neg (by omega)]
              rw [e5]
              iterate 6 refine (JB _ _ (by omega)).trans ?_
              exact Xl
      · repeat' (first|refine Qb fun K' hK=>?_|refine Qe fun K' hK=>?_|refine Ql 9 (fun y=>!decide (y = 0)) rfl (Jk _) (Jh _) fun K' hK=>?_|refine Qm 9 (fun y=>!decide (y = 0)) rfl (Jk _) (Jh _) fun K' hK=>?_|refine Ql 16 (fun y=>!decide (y = 0) && !decide (y = 3) && !decide (y = 4)) rfl (Jj _ _) (Jg _ _) fun K' hK=>?_|refine Qm 16 (fun y=>!decide (y = 0) && !decide (y = 3) && !decide (y = 4)) rfl (Jj _ _) (Jg _ _) fun K' hK=>?_|refine Ql 19 (fun _=>false) rfl (Ji _ _) (Jf _ _) fun K' hK=>?_|refine Qm 19 (fun _=>false) rfl (Ji _ _) (Jf _ _) fun K' hK=>?_|refine Qc ?_|refine Qd ?_|refine Qa ?_|((first|refine Qg ⟨_,rfl,fun hc=>?_,fun hc=>?_⟩|refine Qs (fun hc=>?_) (fun hc=>?_)|refine Qt (fun hc=>?_) (fun hc=>?_))<;>first|(cases hc;done)|((try simp only [znz] at hc);first|exact znf|skip))|refine Qi ?_|refine Qf ?_|simp (maxSteps:=1000000) only [go_sem,ajs,KH,W5,e1,hx,J3,Yd,Yc,Yb]|(refine hK _ ?_;clear hK K')|apply And.intro|(apply XQ;(focus exact rfl);(focus first|exact n1|exact (Qq _ _ _ zsd zsd zsd zsd)|exact (QU _ _ zsd zsd)|exact (Qk _ _ _ zsd zsd)|exact (QF _ _ zsd zsd)|exact (Qp _ _ _ zsd zsd zsd zsd)|exact (QG _ _ _ zsd zsd zsd zsd));(focus exact rfl);(focus exact rfl))|(apply WP;(focus exact rfl);(focus first|exact rfl|decide);(focus first|exact rfl|decide);(focus first|exact n1|exact (Qq _ _ _ zsd zsd zsd zsd)|exact (QU _ _ zsd zsd)|exact (Qk _ _ _ zsd zsd)|exact (QF _ _ zsd zsd)|exact (Qp _ _ _ zsd zsd zsd zsd)|exact (QG _ _ _ zsd zsd zsd zsd));(focus exact rfl);(focus exact rfl);(focus first|exact rfl|decide))|exact zlo|omega|exact zms)
        have ew:IntKind.i64.wrap ((i:Int) + 1) = ((i + 1:Nat):Int):=by rw [WW (by omega) (by omega)];omega
        rw [ew]
        refine hK2 _ (ps,k2,i + 1) (QO []) ⟨hok,(by show ps.length≤i + 1;omega),hk2,(by show i + 1≤5;omega)⟩ (by show 6 - (i + 1) < 6 - i;omega) (U0 [] (by simp only [go_sem,and_true,true_and,implies_true,Option.some.injEq,exists_eq_left',Qh,Qj];(repeat' (first|rfl|apply And.intro|omega|exact fun h=>h|exact Exists.intro _ rfl))) (fun p hp=>?_) (aby fun j _=>by show upd (alh _ _ _) 0 _ (100 + j) = _;unfold upd;rw [if_neg (by omega),Xl]) (by omega) (by rw [jH];show 100 + ps.length≤200;omega) (fun a b _ _ h=>h) (by simp) (by omega))
        simp only [List.mem_cons,List.not_mem_nil,or_false] at hp
        rcases hp with rfl|rfl|rfl
        · exact ⟨_,rfl,yA⟩
        · exact ⟨_,rfl,id,rfl,rfl⟩
        · exact ⟨_,rfl,ad2 (fun _ _=>rfl) (by omega)⟩
  · obtain ⟨ps,k1⟩:=q
    obtain ⟨hokS,hk1⟩:=hq
    dsimp only at hokS hk1
    have hok:=hokS.ok
    have fin0:∀ (k' n:Nat),k'≤l.length→afz 1 r_law12_list (alW l) { t:=yu [(2,V.hd 2 0 ps.length)],o:=alh [(0,Ob.box true (J3 l k')),(2,Ob.obuf true 3 (abw 100 ps))] 100 (Km ps),n:=n }:=fun k' n hk'=>by
      unfold r_law12_list
      refine aeU (k:=k') (X:=2) (xs:=abw 100 ps) (fun i=>100 + i) hok hk' rfl rfl rfl (V7 _ _) (fun i p hp=>⟨.buf true 3 (p.needs.map JS.v),Xl.trans (by rw [Km,List.getElem?_map,hp];rfl),fun h=>h,rfl,?_⟩) (fun i p hp=>⟨.sl 1 (p.ver.map V.int),by rw [wc,hp];rfl,by simp [conv]⟩) (by omega) (fun i _=>⟨by omega,by omega⟩) (fun i j _ _ h=>by omega)
      rfl
    by_cases h0:ps.length = 0
    · repeat' (first|refine Qb fun K' hK=>?_|refine Qe fun K' hK=>?_|refine Ql 9 (fun y=>!decide (y = 0)) rfl (Jk _) (Jh _) fun K' hK=>?_|refine Qm 9 (fun y=>!decide (y = 0)) rfl (Jk _) (Jh _) fun K' hK=>?_|refine Ql 16 (fun y=>!decide (y = 0) && !decide (y = 3) && !decide (y = 4)) rfl (Jj _ _) (Jg _ _) fun K' hK=>?_|refine Qm 16 (fun y=>!decide (y = 0) && !decide (y = 3) && !decide (y = 4)) rfl (Jj _ _) (Jg _ _) fun K' hK=>?_|refine Ql 19 (fun _=>false) rfl (Ji _ _) (Jf _ _) fun K' hK=>?_|refine Qm 19 (fun _=>false) rfl (Ji _ _) (Jf _ _) fun K' hK=>?_|refine Qc ?_|refine Qd ?_|refine Qa ?_|((first|refine Qg ⟨_,rfl,fun hc=>?_,fun hc=>?_⟩|refine Qs (fun hc=>?_) (fun hc=>?_)|refine Qt (fun hc=>?_) (fun hc=>?_))<;>first|(cases hc;done)|((try simp only [znz] at hc);first|exact znf|skip))|refine Qi ?_|refine Qf ?_|simp (maxSteps:=1000000) only [go_sem,aaz,KH,W5,h0,Yd,Yc,Yb]|(refine hK _ ?_;clear hK K')|apply And.intro|(apply XQ;(focus exact rfl);(focus first|exact (Qq _ _ _ zsd zsd zsd zsd)|exact (QU _ _ zsd zsd)|exact (Qk _ _ _ zsd zsd)|exact (QF _ _ zsd zsd)|exact (Qp _ _ _ zsd zsd zsd zsd)|exact (QG _ _ _ zsd zsd zsd zsd));(focus exact rfl);(focus exact rfl))|(apply WP;(focus exact rfl);(focus first|exact rfl|decide);(focus first|exact rfl|decide);(focus first|exact (Qq _ _ _ zsd zsd zsd zsd)|exact (QU _ _ zsd zsd)|exact (Qk _ _ _ zsd zsd)|exact (QF _ _ zsd zsd)|exact (Qp _ _ _ zsd zsd zsd zsd)|exact (QG _ _ _ zsd zsd zsd zsd));(focus exact rfl);(focus exact rfl);(focus first|exact rfl|decide))|exact zlo|omega|exact zms)
      have:=fin0 k1 5200 hk1
      rw [h0] at this
      exact ⟨_,Le.refl _,this⟩
    · have h1:¬ ((ps.length:Int) = 0):=by omega
      have hps:=hok.1
      have n1:=Qk l k1 ps.length hl hk1
      have hk2:=Wu (l:=l) (k:=k1) (n:=ps.length) hk1
      have hr2:=Xr (l:=l) (k:=k1) (n:=ps.length) (by omega) (by omega)
      generalize Yz l k1 ps.length = w at *
      obtain ⟨j,k2⟩:=w
      obtain ⟨j,rfl⟩:∃ i:Nat,j = (i:Int):=⟨j.toNat,by simp only at hr2;omega⟩
      simp only at hk2 hr2
      have n2:=Qk l k2 16 hl hk2
      have hk3:=Wu (l:=l) (k:=k2) (n:=16) hk2
      have hr3:=Xr (l:=l) (k:=k2) (n:=16) (by omega) (by omega)
      generalize Yz l k2 16 = w at *
      obtain ⟨x,k3⟩:=w
      simp only at hk3 hr3
      simp only [J3] at n1 n2 ⊢
      obtain ⟨p,hp⟩:∃ p,ps[j]? = some p:=⟨ps[j]'(by omega),List.getElem?_eq_getElem (by omega)⟩
      have hpS:=hokS.2 p (List.mem_of_getElem? hp)
      have hpo:=hok.2 p (List.mem_of_getElem? hp)
      have hp3:p.needs.length≤3:=hpS.2.2.1
      have he:(abw 100 ps)[j]? = some (.agg [V.str p.name,.sl 1 (p.ver.map V.int),.hd (100 + j) 0 p.needs.length]):=by rw [wc,hp];rfl
      have hset:∀ q:Qu,ajd q→aay (ps.set j q):=fun q hq=>⟨by simp;omega,fun y hy=>by
        rcases List.mem_or_eq_of_mem_set hy with h2|h2
        · exact hok.2 y h2
        · rw [h2];exact hq⟩
      by_cases x0:x = 0
      · subst x0
        have n3:=Qp l k3 [[],[97,32,98],[97,112,112]] hl hk3 (by simp) (by simp)
        have hk4:=agi (l:=l) (k:=k3) (xs:=[[],[97,32,98],[97,112,112]]) hk3
        have hwm:=aeb (l:=l) (k:=k3) (xs:=[[],[97,32,98],[97,112,112]]) (by simp) (by simp)
        generalize hw:aci l k3 [[],[97,32,98],[97,112,112]] = u at *
        obtain ⟨wd,k4⟩:=u
        simp only [J3,List.map_cons,List.map_nil] at n3 hk4 ⊢
        repeat' (first|refine Qb fun K' hK=>?_|refine Qe fun K' hK=>?_|refine Ql 9 (fun y=>!decide (y = 0)) rfl (Jk _) (Jh _) fun K' hK=>?_|refine Qm 9 (fun y=>!decide (y = 0)) rfl (Jk _) (Jh _) fun K' hK=>?_|refine Ql 16 (fun y=>!decide (y = 0) && !decide (y = 3) && !decide (y = 4)) rfl (Jj _ _) (Jg _ _) fun K' hK=>?_|refine Qm 16 (fun y=>!decide (y = 0) && !decide (y = 3) && !decide (y = 4)) rfl (Jj _ _) (Jg _ _) fun K' hK=>?_|refine Ql 19 (fun _=>false) rfl (Ji _ _) (Jf _ _) fun K' hK=>?_|refine Qm 19 (fun _=>false) rfl (Ji _ _) (Jf _ _) fun K' hK=>?_|refine Qc ?_|refine Qd ?_|refine Qa ?_|((first|refine Qg ⟨_,rfl,fun hc=>?_,fun hc=>?_⟩|refine Qs (fun hc=>?_) (fun hc=>?_)|refine Qt (fun hc=>?_) (fun hc=>?_))<;>first|(cases hc;done)|((try simp only [znz] at hc);first|exact znf|skip))|refine Qi ?_|refine Qf ?_|simp (maxSteps:=1000000) only [go_sem,aaz,KH,W5,h1,he,J3,Yd,Yc,Yb]|(refine hK _ ?_;clear hK K')|apply And.intro|(apply XQ;(focus exact rfl);(focus first|exact n1|exact n2|exact n3|exact (Qq _ _ _ zsd zsd zsd zsd)|exact (QU _ _ zsd zsd)|exact (Qk _ _ _ zsd zsd)|exact (QF _ _ zsd zsd)|exact (Qp _ _ _ zsd zsd zsd zsd)|exact (QG _ _ _ zsd zsd zsd zsd));(focus exact rfl);(focus exact rfl))|(apply WP;(focus exact rfl);(focus first|exact rfl|decide);(focus first|exact rfl|decide);(focus first|exact n1|exact n2|exact n3|exact (Qq _ _ _ zsd zsd zsd zsd)|exact (QU _ _ zsd zsd)|exact (Qk _ _ _ zsd zsd)|exact (QF _ _ zsd zsd)|exact (Qp _ _ _ zsd zsd zsd zsd)|exact (QG _ _ _ zsd zsd zsd zsd));(focus exact rfl);(focus exact rfl);(focus first|exact rfl|decide))|exact zlo|omega|exact zms)
        have hwl:wd.length≤5:=by
          simp only at hwm
          rcases List.mem_cons.1 hwm with h2|h2
          · rw [h2];decide
          · rcases List.mem_cons.1 h2 with h2|h2
            · rw [h2];decide
            · rw [List.mem_singleton.1 h2];decide
        refine ⟨_,Le.refl _,?_⟩
        refine wA (z:=.sl 1 (p.ver.map V.int)) (q:={ p with name:=wd }) (nj:=100 + j) hok ⟨hwl,hpo.2⟩ (by omega) hk4 rfl rfl rfl (fun br hbr=>by simp [conv]) (.inl rfl) (fun i hi hij=>?_) (fun br hbr=>⟨.buf true 3 (p.needs.map JS.v),?_,id,rfl,rfl⟩)
        · iterate 2 refine (JB _ _ (by omega)).trans ?_
          refine (af4 (by simp;omega)).trans ?_
          iterate 3 refine (JB _ _ (by omega)).trans ?_
          exact Xl
        · iterate 2 refine (JB _ _ (by omega)).trans ?_
          refine (af4 (by simp;omega)).trans ?_
          iterate 3 refine (JB _ _ (by omega)).trans ?_
          exact Xl.trans (by rw [Km,List.getElem?_map,hp];rfl)
      by_cases x1:x = 1
      · subst x1
        have n3:=Qk l k3 4 hl hk3
        have hk4:=Wu (l:=l) (k:=k3) (n:=4) hk3
        have hr4:=Xr (l:=l) (k:=k3) (n:=4) (by omega) (by omega)
        generalize Yz l k3 4 = w at *
        obtain ⟨z,k4⟩:=w
        simp only [J3] at n3 hk4 hr4 ⊢
        have hz:z = 0∨z = 1∨z = 2∨z = 3:=by omega
        rcases hz with rfl|rfl|rfl|rfl
        · repeat' (first|refine Qb fun K' hK=>?_|refine Qe fun K' hK=>?_|refine Ql 9 (fun y=>!decide (y = 0)) rfl (Jk _) (Jh _) fun K' hK=>?_|refine Qm 9 (fun y=>!decide (y = 0)) rfl (Jk _) (Jh _) fun K' hK=>?_|refine Ql 16 (fun y=>!decide (y = 0) && !decide (y = 3) && !decide (y = 4)) rfl (Jj _ _) (Jg _ _) fun K' hK=>?_|refine Qm 16 (fun y=>!decide (y = 0) && !decide (y = 3) && !decide (y = 4)) rfl (Jj _ _) (Jg _ _) fun K' hK=>?_|refine Ql 19 (fun _=>false) rfl (Ji _ _) (Jf _ _) fun K' hK=>?_|refine Qm 19 (fun _=>false) rfl (Ji _ _) (Jf _ _) fun K' hK=>?_|refine Qc ?_|refine Qd ?_|refine Qa ?_|((first|refine Qg ⟨_,rfl,fun hc=>?_,fun hc=>?_⟩|refine Qs (fun hc=>?_) (fun hc=>?_)|refine Qt (fun hc=>?_) (fun hc=>?_))<;>first|(cases hc;done)|((try simp only [znz] at hc);first|exact znf|skip))|refine Qi ?_|refine Qf ?_|simp (maxSteps:=1000000) only [go_sem,aaz,KH,W5,h1,he,J3,Yd,Yc,Yb]|(refine hK _ ?_;clear hK K')|apply And.intro|(apply XQ;(focus exact rfl);(focus first|exact n1|exact n2|exact n3|exact (Qq _ _ _ zsd zsd zsd zsd)|exact (QU _ _ zsd zsd)|exact (Qk _ _ _ zsd zsd)|exact (QF _ _ zsd zsd)|exact (Qp _ _ _ zsd zsd zsd zsd)|exact (QG _ _ _ zsd zsd zsd zsd));(focus exact rfl);(focus exact rfl))|(apply WP;(focus exact rfl);(focus first|exact rfl|decide);(focus first|exact rfl|decide);(focus first|exact n1|exact n2|exact n3|exact (Qq _ _ _ zsd zsd zsd zsd)|exact (QU _ _ zsd zsd)|exact (Qk _ _ _ zsd zsd)|exact (QF _ _ zsd zsd)|exact (Qp _ _ _ zsd zsd zsd zsd)|exact (QG _ _ _ zsd zsd zsd zsd));(focus exact rfl);(focus exact rfl);(focus first|exact rfl|decide))|exact zlo|omega|exact zms)
          all_goals
            refine ⟨_,Le.refl _,?_⟩
            refine wA (q:={ p with ver:=[] }) (nj:=100 + j) hok ⟨hpo.1,by simp,hpo.2.2⟩ (by omega) hk4 rfl rfl rfl (fun br hbr=>?_) (.inl rfl) (fun i hi _=>?_) ?_
            · simp [conv]
            · iterate 8 refine (JB _ _ (by omega)).trans ?_
              exact Xl
            · intro br _
              refine ⟨.buf true 3 (p.needs.map JS.v),?_,fun h=>h,rfl,rfl⟩
              iterate 8 refine (JB _ _ (by omega)).trans ?_
              exact Xl.trans (by rw [Km,List.getElem?_map,hp];rfl)
        · repeat' (first|refine Qb fun K' hK=>?_|refine Qe fun K' hK=>?_|refine Ql 9 (fun y=>!decide (y = 0)) rfl (Jk _) (Jh _) fun K' hK=>?_|refine Qm 9 (fun y=>!decide (y = 0)) rfl (Jk _) (Jh _) fun K' hK=>?_|refine Ql 16 (fun y=>!decide (y = 0) && !decide (y = 3) && !decide (y = 4)) rfl (Jj _ _) (Jg _ _) fun K' hK=>?_|refine Qm 16 (fun y=>!decide (y = 0) && !decide (y = 3) && !decide (y = 4)) rfl (Jj _ _) (Jg _ _) fun K' hK=>?_|refine Ql 19 (fun _=>false) rfl (Ji _ _) (Jf _ _) fun K' hK=>?_|refine Qm 19 (fun _=>false) rfl (Ji _ _) (Jf _ _) fun K' hK=>?_|refine Qc ?_|refine Qd ?_|refine Qa ?_|((first|refine Qg ⟨_,rfl,fun hc=>?_,fun hc=>?_⟩|refine Qs (fun hc=>?_) (fun hc=>?_)|refine Qt (fun hc=>?_) (fun hc=>?_))<;>first|(cases hc;done)|((try simp only [znz] at hc);first|exact znf|skip))|refine Qi ?_|refine Qf ?_|simp (maxSteps:=1000000) only [go_sem,aaz,KH,W5,h1,he,J3,Yd,Yc,Yb]|(refine hK _ ?_;clear hK K')|apply And.intro|(apply XQ;(focus exact rfl);(focus first|exact n1|exact n2|exact n3|exact (Qq _ _ _ zsd zsd zsd zsd)|exact (QU _ _ zsd zsd)|exact (Qk _ _ _ zsd zsd)|exact (QF _ _ zsd zsd)|exact (Qp _ _ _ zsd zsd zsd zsd)|exact (QG _ _ _ zsd zsd zsd zsd));(focus exact rfl);(focus exact rfl))|(apply WP;(focus exact rfl);(focus first|exact rfl|decide);(focus first|exact rfl|decide);(focus first|exact n1|exact n2|exact n3|exact (Qq _ _ _ zsd zsd zsd zsd)|exact (QU _ _ zsd zsd)|exact (Qk _ _ _ zsd zsd)|exact (QF _ _ zsd zsd)|exact (Qp _ _ _ zsd zsd zsd zsd)|exact (QG _ _ _ zsd zsd zsd zsd));(focus exact rfl);(focus exact rfl);(focus first|exact rfl|decide))|exact zlo|omega|exact zms)
          all_goals
            refine ⟨_,Le.refl _,?_⟩
            refine wA (q:={ p with ver:=[-1] }) (nj:=100 + j) hok ⟨hpo.1,by simp,hpo.2.2⟩ (by omega) hk4 rfl rfl rfl (fun br hbr=>?_) (.inl rfl) (fun i hi _=>?_) ?_
            · have hnot:17200 ∉ br:=fun h=>(by have:=hbr _ h;omega)
              simp only [conv]
              exact ⟨trivial,hnot,.inl ⟨true,_,rfl,rfl⟩⟩
            · iterate 8 refine (JB _ _ (by omega)).trans ?_
              exact Xl
            · intro br _
              refine ⟨.buf true 3 (p.needs.map JS.v),?_,fun h=>h,rfl,rfl⟩
              iterate 8 refine (JB _ _ (by omega)).trans ?_
              exact Xl.trans (by rw [Km,List.getElem?_map,hp];rfl)
        · repeat' (first|refine Qb fun K' hK=>?_|refine Qe fun K' hK=>?_|refine Ql 9 (fun y=>!decide (y = 0)) rfl (Jk _) (Jh _) fun K' hK=>?_|refine Qm 9 (fun y=>!decide (y = 0)) rfl (Jk _) (Jh _) fun K' hK=>?_|refine Ql 16 (fun y=>!decide (y = 0) && !decide (y = 3) && !decide (y = 4)) rfl (Jj _ _) (Jg _ _) fun K' hK=>?_|refine Qm 16 (fun y=>!decide (y = 0) && !decide (y = 3) && !decide (y = 4)) rfl (Jj _ _) (Jg _ _) fun K' hK=>?_|refine Ql 19 (fun _=>false) rfl (Ji _ _) (Jf _ _) fun K' hK=>?_|refine Qm 19 (fun _=>false) rfl (Ji _ _) (Jf _ _) fun K' hK=>?_|refine Qc ?_|refine Qd ?_|refine Qa ?_|((first|refine Qg ⟨_,rfl,fun hc=>?_,fun hc=>?_⟩|refine Qs (fun hc=>?_) (fun hc=>?_)|refine Qt (fun hc=>?_) (fun hc=>?_))<;>first|(cases hc;done)|((try simp only [znz] at hc);first|exact znf|skip))|refine Qi ?_|refine Qf ?_|simp (maxSteps:=1000000) only [go_sem,aaz,KH,W5,h1,he,J3,Yd,Yc,Yb]|(refine hK _ ?_;clear hK K')|apply And.intro|(apply XQ;(focus exact rfl);(focus first|exact n1|exact n2|exact n3|exact (Qq _ _ _ zsd zsd zsd zsd)|exact (QU _ _ zsd zsd)|exact (Qk _ _ _ zsd zsd)|exact (QF _ _ zsd zsd)|exact (Qp _ _ _ zsd zsd zsd zsd)|exact (QG _ _ _ zsd zsd zsd zsd));(focus exact rfl);(focus exact rfl))|(apply WP;(focus exact rfl);(focus first|exact rfl|decide);(focus first|exact rfl|decide);(focus first|exact n1|exact n2|exact n3|exact (Qq _ _ _ zsd zsd zsd zsd)|exact (QU _ _ zsd zsd)|exact (Qk _ _ _ zsd zsd)|exact (QF _ _ zsd zsd)|exact (Qp _ _ _ zsd zsd zsd zsd)|exact (QG _ _ _ zsd zsd zsd zsd));(focus exact rfl);(focus exact rfl);(focus first|exact rfl|decide))|exact zlo|omega|exact zms)
          all_goals
            refine ⟨_,Le.refl _,?_⟩
            refine wA (q:={ p with ver:=[1,2,3,4,5] }) (nj:=100 + j) hok ⟨hpo.1,by simp,hpo.2.2⟩ (by omega) hk4 rfl rfl rfl (fun br hbr=>?_) (.inl rfl) (fun i hi _=>?_) ?_
            · have hnot:18200 ∉ br:=fun h=>(by have:=hbr _ h;omega)
              simp only [conv]
              exact ⟨trivial,hnot,.inl ⟨true,_,rfl,rfl⟩⟩
            · iterate 8 refine (JB _ _ (by omega)).trans ?_
              exact Xl
            · intro br _
              refine ⟨.buf true 3 (p.needs.map JS.v),?_,fun h=>h,rfl,rfl⟩
              iterate 8 refine (JB _ _ (by omega)).trans ?_
              exact Xl.trans (by rw [Km,List.getElem?_map,hp];rfl)
        · repeat' (first|refine Qb fun K' hK=>?_|refine Qe fun K' hK=>?_|refine Ql 9 (fun y=>!decide (y = 0)) rfl (Jk _) (Jh _) fun K' hK=>?_|refine Qm 9 (fun y=>!decide (y = 0)) rfl (Jk _) (Jh _) fun K' hK=>?_|refine Ql 16 (fun y=>!decide (y = 0) && !decide (y = 3) && !decide (y = 4)) rfl (Jj _ _) (Jg _ _) fun K' hK=>?_|refine Qm 16 (fun y=>!decide (y = 0) && !decide (y = 3) && !decide (y = 4)) rfl (Jj _ _) (Jg _ _) fun K' hK=>?_|refine Ql 19 (fun _=>false) rfl (Ji _ _) (Jf _ _) fun K' hK=>?_|refine Qm 19 (fun _=>false) rfl (Ji _ _) (Jf _ _) fun K' hK=>?_|refine Qc ?_|refine Qd ?_|refine Qa ?_|((first|refine Qg ⟨_,rfl,fun hc=>?_,fun hc=>?_⟩|refine Qs (fun hc=>?_) (fun hc=>?_)|refine Qt (fun hc=>?_) (fun hc=>?_))<;>first|(cases hc;done)|((try simp only [znz] at hc);first|exact znf|skip))|refine Qi ?_|refine Qf ?_|simp (maxSteps:=1000000) only [go_sem,aaz,KH,W5,h1,he,J3,Yd,Yc,Yb]|(refine hK _ ?_;clear hK K')|apply And.intro|(apply XQ;(focus exact rfl);(focus first|exact n1|exact n2|exact n3|exact (Qq _ _ _ zsd zsd zsd zsd)|exact (QU _ _ zsd zsd)|exact (Qk _ _ _ zsd zsd)|exact (QF _ _ zsd zsd)|exact (Qp _ _ _ zsd zsd zsd zsd)|exact (QG _ _ _ zsd zsd zsd zsd));(focus exact rfl);(focus exact rfl))|(apply WP;(focus exact rfl);(focus first|exact rfl|decide);(focus first|exact rfl|decide);(focus first|exact n1|exact n2|exact n3|exact (Qq _ _ _ zsd zsd zsd zsd)|exact (QU _ _ zsd zsd)|exact (Qk _ _ _ zsd zsd)|exact (QF _ _ zsd zsd)|exact (Qp _ _ _ zsd zsd zsd zsd)|exact (QG _ _ _ zsd zsd zsd zsd));(focus exact rfl);(focus exact rfl);(focus first|exact rfl|decide))|exact zlo|omega|exact zms)
          all_goals
            refine ⟨_,Le.refl _,?_⟩
            refine wA (q:={ p with ver:=[100000] }) (nj:=100 + j) hok ⟨hpo.1,by simp,hpo.2.2⟩ (by omega) hk4 rfl rfl rfl (fun br hbr=>?_) (.inl rfl) (fun i hi _=>?_) ?_
            · have hnot:19200 ∉ br:=fun h=>(by have:=hbr _ h;omega)
              simp only [conv]
              exact ⟨trivial,hnot,.inl ⟨true,_,rfl,rfl⟩⟩
            · iterate 8 refine (JB _ _ (by omega)).trans ?_
              exact Xl
            · intro br _
              refine ⟨.buf true 3 (p.needs.map JS.v),?_,fun h=>h,rfl,rfl⟩
              iterate 8 refine (JB _ _ (by omega)).trans ?_
              exact Xl.trans (by rw [Km,List.getElem?_map,hp];rfl)
      by_cases x2:x = 2
      · subst x2
        have n3:=Qp l k3 [[],[110,111,110,101],[120,32,121]] hl hk3 (by simp) (by simp)
        have hk4:=agi (l:=l) (k:=k3) (xs:=[[],[110,111,110,101],[120,32,121]]) hk3
        have hwm:=aeb (l:=l) (k:=k3) (xs:=[[],[110,111,110,101],[120,32,121]]) (by simp) (by simp)
        generalize hw:aci l k3 [[],[110,111,110,101],[120,32,121]] = u at *
        obtain ⟨wd,k4⟩:=u
        have n4:=QG l k4 [-1,3] hl hk4 (by simp) (by simp)
        have hk5:=ajj (l:=l) (k:=k4) (xs:=[-1,3]) hk4
        generalize ofD l k4 [-1,3] = u at *
        obtain ⟨lo,k5⟩:=u
        simp only [J3,List.map_cons,List.map_nil] at n3 n4 hk4 hk5 ⊢
        have hnb:(Km ps)[j]? = some (.buf true 3 (p.needs.map JS.v)):=by rw [Km,List.getElem?_map,hp];rfl
        have ne:∀ c,c < 100∨200≤c→(100 + j = c) = False:=fun c hc=>eq_false (by omega)
        have d1:decide (100 + j < 18200) = true:=decide_eq_true (by omega)
        have m1:=ne 0 (by omega)
        have m2:=ne 2 (by omega)
        have m3:=ne 24200 (by omega)
        have m4:=ne 27200 (by omega)
        have m5:=ne 29200 (by omega)
        have m6:=ne 32200 (by omega)
        have m7:=ne 33200 (by omega)
        have m8:(0 = 100 + j) = False:=eq_false (by omega)
        have m9:(2 = 100 + j) = False:=eq_false (by omega)
        repeat' (first|refine Qb fun K' hK=>?_|refine Qe fun K' hK=>?_|refine Ql 9 (fun y=>!decide (y = 0)) rfl (Jk _) (Jh _) fun K' hK=>?_|refine Qm 9 (fun y=>!decide (y = 0)) rfl (Jk _) (Jh _) fun K' hK=>?_|refine Ql 16 (fun y=>!decide (y = 0) && !decide (y = 3) && !decide (y = 4)) rfl (Jj _ _) (Jg _ _) fun K' hK=>?_|refine Qm 16 (fun y=>!decide (y = 0) && !decide (y = 3) && !decide (y = 4)) rfl (Jj _ _) (Jg _ _) fun K' hK=>?_|refine Ql 19 (fun _=>false) rfl (Ji _ _) (Jf _ _) fun K' hK=>?_|refine Qm 19 (fun _=>false) rfl (Ji _ _) (Jf _ _) fun K' hK=>?_|refine Qc ?_|refine Qd ?_|refine Qa ?_|((first|refine Qg ⟨_,rfl,fun hc=>?_,fun hc=>?_⟩|refine Qs (fun hc=>?_) (fun hc=>?_)|refine Qt (fun hc=>?_) (fun hc=>?_))<;>first|(cases hc;done)|((try simp only [znz] at hc);first|exact znf|skip))|refine Qi ?_|refine Qf ?_|simp (maxSteps:=1000000) only [go_sem,aaz,KH,W5,h1,he,J3,hnb,Xl,d1,m1,m2,m3,m4,m5,m6,m7,m8,m9,Yd,Yc,Yb]|(refine hK _ ?_;clear hK K')|apply And.intro|(apply XQ;(focus exact rfl);(focus first|exact n1|exact n2|exact n3|exact n4|exact (Qq _ _ _ zsd zsd zsd zsd)|exact (QU _ _ zsd zsd)|exact (Qk _ _ _ zsd zsd)|exact (QF _ _ zsd zsd)|exact (Qp _ _ _ zsd zsd zsd zsd)|exact (QG _ _ _ zsd zsd zsd zsd));(focus exact rfl);(focus exact rfl))|(apply WP;(focus exact rfl);(focus first|exact rfl|decide);(focus first|exact rfl|decide);(focus first|exact n1|exact n2|exact n3|exact n4|exact (Qq _ _ _ zsd zsd zsd zsd)|exact (QU _ _ zsd zsd)|exact (Qk _ _ _ zsd zsd)|exact (QF _ _ zsd zsd)|exact (Qp _ _ _ zsd zsd zsd zsd)|exact (QG _ _ _ zsd zsd zsd zsd));(focus exact rfl);(focus exact rfl);(focus first|exact rfl|decide))|exact zlo|omega|exact zms)
        all_goals
          have hwl:wd.length≤5:=by
            simp only at hwm
            rcases List.mem_cons.1 hwm with h2|h2
            · rw [h2];decide
            · rcases List.mem_cons.1 h2 with h2|h2
              · rw [h2];decide
              · rw [List.mem_singleton.1 h2];decide
          refine ⟨_,Le.refl _,?_⟩
          refine wA (z:=.sl 1 (p.ver.map V.int)) (j:=j) (q:={ p with needs:=p.needs++[⟨wd,[lo],[]⟩] }) (nj:=33200) hok ⟨hpo.1,hpo.2.1,(by show (p.needs++[_]).length≤9;rw [List.length_append];simp only [List.length_singleton];exact Nat.le_trans (Nat.succ_le_succ hp3) (by decide)),fun y hy=>?_⟩ (by omega) hk5 rfl ?_ ?_ (fun br hbr=>by simp [conv]) (.inr (by omega)) (fun i hi hij=>?_) (fun br hbr=>⟨_,rfl,id,rfl,?_,aaO _⟩)
          · rcases List.mem_append.1 hy with h2|h2
            · exact hpo.2.2.2 y h2
            · rw [List.mem_singleton.1 h2];exact ⟨hwl,by simp,by simp⟩
          · (try dsimp only);repeat' (with_reducible first|exact Xl|exact QZ _ _ _|refine (JB _ _ (by omega)).trans ?_|refine (af4 (by simp;omega)).trans ?_)
            all_goals exact QZ _ _ _
          · show _ = some (Ob.obuf true 3 ((abw 100 ps).set j (.agg [V.str p.name,.sl 1 (p.ver.map V.int),.hd 33200 0 (p.needs++[_]).length])))
            rw [List.length_append];rfl
          · (try dsimp only);repeat' (with_reducible first|exact Xl|exact QZ _ _ _|refine (JB _ _ (by omega)).trans ?_|refine (af4 (by simp;omega)).trans ?_)
          · have hnot:29200 ∉ br:=fun h=>(by have:=hbr _ h;omega)
            rw [List.take_of_length_le (by simp)]
            refine aeW _ _ (by simp) fun i x y hx hy=>?_
            simp only [List.map_append,List.getElem?_append,List.length_map] at hx hy
            split at hx
            · rename_i hlt
              rw [if_pos hlt] at hy
              rw [hx] at hy;cases hy
              rw [List.getElem?_map] at hx
              obtain ⟨n,_,rfl⟩:=Option.map_eq_some_iff.1 hx
              exact YP _ _ _ _ (ab2 n)
            · rename_i hlt
              rw [if_neg hlt] at hy
              generalize i - p.needs.length = i' at hx hy
              cases i' with
              | succ i'=>simp at hx
              | zero =>
                simp only [List.getElem?_cons_zero,Option.some.injEq,List.map_cons,List.map_nil] at hx hy
                subst hx;subst hy
                refine ⟨by simp [conv],?_,by simp [conv,JS.v],trivial⟩
                simp only [conv]
                refine ⟨trivial,hnot,.inl ⟨true,[V.int lo],?_,rfl⟩⟩
                (try dsimp only);repeat' (with_reducible first|exact Xl|exact QZ _ _ _|refine (JB _ _ (by omega)).trans ?_|refine (af4 (by simp;omega)).trans ?_)
      by_cases x3:x = 3
      · subst x3
        repeat' (first|refine Qb fun K' hK=>?_|refine Qe fun K' hK=>?_|refine Ql 9 (fun y=>!decide (y = 0)) rfl (Jk _) (Jh _) fun K' hK=>?_|refine Qm 9 (fun y=>!decide (y = 0)) rfl (Jk _) (Jh _) fun K' hK=>?_|refine Ql 16 (fun y=>!decide (y = 0) && !decide (y = 3) && !decide (y = 4)) rfl (Jj _ _) (Jg _ _) fun K' hK=>?_|refine Qm 16 (fun y=>!decide (y = 0) && !decide (y = 3) && !decide (y = 4)) rfl (Jj _ _) (Jg _ _) fun K' hK=>?_|refine Ql 19 (fun _=>false) rfl (Ji _ _) (Jf _ _) fun K' hK=>?_|refine Qm 19 (fun _=>false) rfl (Ji _ _) (Jf _ _) fun K' hK=>?_|refine Qc ?_|refine Qd ?_|refine Qa ?_|((first|refine Qg ⟨_,rfl,fun hc=>?_,fun hc=>?_⟩|refine Qs (fun hc=>?_) (fun hc=>?_)|refine Qt (fun hc=>?_) (fun hc=>?_))<;>first|(cases hc;done)|((try simp only [znz] at hc);first|exact znf|skip))|refine Qi ?_|refine Qf ?_|simp (maxSteps:=1000000) only [go_sem,aaz,KH,W5,h1,he,J3,Yd,Yc,Yb]|(refine hK _ ?_;clear hK K')|apply And.intro|(apply XQ;(focus exact rfl);(focus first|exact n1|exact n2|exact (Qq _ _ _ zsd zsd zsd zsd)|exact (QU _ _ zsd zsd)|exact (Qk _ _ _ zsd zsd)|exact (QF _ _ zsd zsd)|exact (Qp _ _ _ zsd zsd zsd zsd)|exact (QG _ _ _ zsd zsd zsd zsd));(focus exact rfl);(focus exact rfl))|(apply WP;(focus exact rfl);(focus first|exact rfl|decide);(focus first|exact rfl|decide);(focus first|exact n1|exact n2|exact (Qq _ _ _ zsd zsd zsd zsd)|exact (QU _ _ zsd zsd)|exact (Qk _ _ _ zsd zsd)|exact (QF _ _ zsd zsd)|exact (Qp _ _ _ zsd zsd zsd zsd)|exact (QG _ _ _ zsd zsd zsd zsd));(focus exact rfl);(focus exact rfl);(focus first|exact rfl|decide))|exact zlo|omega|exact zms)
        all_goals
          refine ⟨_,Le.upd (a:=21200) (y:=.buf true 3 ((List.replicate 9 (⟨[],[],[]⟩:JS)).map JS.v)) rfl ⟨rfl,rfl,?_⟩,?_⟩
          · simp only [List.replicate,List.map_cons,List.map_nil,leC,leL,V.cells,JS.v,and_true]
            refine ⟨?_,?_,?_,?_,?_,?_,?_,?_,?_⟩<;>exact ⟨LeV.refl _,LeV.nil _,LeV.nil _,trivial⟩
          · refine wA (q:={ p with needs:=List.replicate 9 ⟨[],[],[]⟩ }) (nj:=21200) hok ⟨hpo.1,hpo.2.1,by simp,fun y hy=>?_⟩ (by omega) hk3 rfl rfl rfl (fun br hbr=>by simp [conv]) (.inr (by omega)) (fun i hi _=>?_) ?_
            · rw [(List.mem_replicate.1 hy).2];exact ⟨by simp,by simp,by simp⟩
            · iterate 5 refine (JB _ _ (by omega)).trans ?_
              exact Xl
            · exact fun br _=>⟨_,rfl,fun h=>h,rfl,rfl⟩
      · have b0:decide (x = 0) = false:=decide_eq_false x0
        have b1:decide (x = 1) = false:=decide_eq_false x1
        have b2:decide (x = 2) = false:=decide_eq_false x2
        have b3:decide (x = 3) = false:=decide_eq_false x3
        repeat' (first|refine Qb fun K' hK=>?_|refine Qe fun K' hK=>?_|refine Ql 9 (fun y=>!decide (y = 0)) rfl (Jk _) (Jh _) fun K' hK=>?_|refine Qm 9 (fun y=>!decide (y = 0)) rfl (Jk _) (Jh _) fun K' hK=>?_|refine Ql 16 (fun y=>!decide (y = 0) && !decide (y = 3) && !decide (y = 4)) rfl (Jj _ _) (Jg _ _) fun K' hK=>?_|refine Qm 16 (fun y=>!decide (y = 0) && !decide (y = 3) && !decide (y = 4)) rfl (Jj _ _) (Jg _ _) fun K' hK=>?_|refine Ql 19 (fun _=>false) rfl (Ji _ _) (Jf _ _) fun K' hK=>?_|refine Qm 19 (fun _=>false) rfl (Ji _ _) (Jf _ _) fun K' hK=>?_|refine Qc ?_|refine Qd ?_|refine Qa ?_|((first|refine Qg ⟨_,rfl,fun hc=>?_,fun hc=>?_⟩|refine Qs (fun hc=>?_) (fun hc=>?_)|refine Qt (fun hc=>?_) (fun hc=>?_))<;>first|(cases hc;done)|((try simp only [znz] at hc);first|exact znf|skip))|refine Qi ?_|refine Qf ?_|simp (maxSteps:=1000000) only [go_sem,aaz,KH,W5,h1,b0,b1,b2,b3,J3,Yd,Yc,Yb]|(refine hK _ ?_;clear hK K')|apply And.intro|(apply XQ;(focus exact rfl);(focus first|exact n1|exact n2|exact (Qq _ _ _ zsd zsd zsd zsd)|exact (QU _ _ zsd zsd)|exact (Qk _ _ _ zsd zsd)|exact (QF _ _ zsd zsd)|exact (Qp _ _ _ zsd zsd zsd zsd)|exact (QG _ _ _ zsd zsd zsd zsd));(focus exact rfl);(focus exact rfl))|(apply WP;(focus exact rfl);(focus first|exact rfl|decide);(focus first|exact rfl|decide);(focus first|exact n1|exact n2|exact (Qq _ _ _ zsd zsd zsd zsd)|exact (QU _ _ zsd zsd)|exact (Qk _ _ _ zsd zsd)|exact (QF _ _ zsd zsd)|exact (Qp _ _ _ zsd zsd zsd zsd)|exact (QG _ _ _ zsd zsd zsd zsd));(focus exact rfl);(focus exact rfl);(focus first|exact rfl|decide))|exact zlo|omega|exact zms)
        refine ⟨_,Le.refl _,?_⟩
        refine aeU (k:=k3) (X:=2) (xs:=abw 100 ps) (fun i=>100 + i) hok hk3 rfl rfl rfl (V7 _ _) (fun i p hp=>⟨.buf true 3 (p.needs.map JS.v),?_,fun h=>h,rfl,rfl⟩) (fun i p hp=>⟨.sl 1 (p.ver.map V.int),by rw [wc,hp];rfl,by simp [conv]⟩) (by omega) (fun i _=>⟨by omega,by omega⟩) (fun i j _ _ h=>by omega)
        iterate 2 refine (JB _ _ (by omega)).trans ?_
        exact Xl.trans (by rw [Km,List.getElem?_map,hp];rfl)
end Av
end
section
set_option linter.unusedSimpArgs false
set_option linter.unusedVariables false
set_option maxRecDepth 10000
set_option maxHeartbeats 4000000
namespace Av
open Go
attribute [local irreducible] AWp WY Vp Vq awS awC V1 awQ Uh Q9 YQ VZ awR YT awB okR Ww ris
theorem alX {ps:List Qu} (h:aay ps):PSz ps:=by
  refine ⟨by have:=h.1;omega,fun p hp=>?_⟩
  obtain ⟨h1,h2,h3,h4⟩:=h.2 p hp
  refine ⟨by omega,by omega,by omega,fun n hn=>?_⟩
  obtain ⟨g1,g2,g3⟩:=h4 n hn
  exact ⟨by omega,by omega,by omega⟩
theorem ajk:∀ (ps:List Qu),ntL (ps.map Qu.v)
  | []=>trivial
  | p :: r=>⟨by simp [Qu.v],ajk r⟩
theorem agQ {α:Type} {f:α→Bool} {l:List α} {k:Nat} {x:α} (h:l[k]? = some x):(l.take (k + 1)).all f = ((l.take k).all f && f x):=by
  rw [List.take_add_one,h,List.all_append];simp
theorem anC {α:Type} {f:α→Bool} {l:List α} {k:Nat} {x:α} (h:l[k]? = some x):(l.take (k + 1)).any f = ((l.take k).any f || f x):=by
  rw [List.take_add_one,h,List.any_append];simp
theorem ab1:∀ (ps:List Qu),Qn (ps.map Qu.v)
  | []=>trivial
  | p :: r=>⟨(by simp only [Qu.v,Qu.cells,V.closed,Qn,and_self]),ab1 r⟩
end Av
end
