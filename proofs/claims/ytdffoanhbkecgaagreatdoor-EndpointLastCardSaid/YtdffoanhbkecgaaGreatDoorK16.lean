/- Slices of bytes. -/
import Derived.Test.YtdffoanhbkecgaaGreatDoorK15
import Derived.Test.YtdffoanhbkecgaaGreatDoorK11
import Derived.Test.YtdffoanhbkecgaaGreatDoorK12
import Derived.Test.YtdffoanhbkecgaaGreatDoorK14
set_option linter.unusedVariables false
set_option linter.unusedSimpArgs false
section
set_option linter.unusedSimpArgs false
set_option linter.unusedVariables false
set_option maxRecDepth 10000
set_option maxHeartbeats 4000000
namespace Av
open Go
attribute [local irreducible] AWp V7 Kz KE awS awC jS awQ jY JB Wl jJ awR Ws awB okR Vo ris
def VS (QL:Nat):AC:=QF [0,1] (.reg [mc 3 (V.bool false)]) (QF [3] (.reg [ld 4 1 1,mv 5 0,cl 6 QL [4,5],mv 3 6]) (.ret)) def r_suitespec_row__word_1:List Y9:=[.tmp 3]
def Vx (Γ:Env) (f:Nat):Prop:=∀ (x:Int) (m:List Int) (hm2:m.length < 2 ^ 62),EvN Γ f [V.int x,.ro [.sl 1 (m.map V.int)] 0] (V.bool (m.contains x))
theorem xK {Γ:Env} {f QL:Nat} (h:Has Γ.P f 7 (VS QL) r_suitespec_row__word_1) (QC:JY Γ QL):Vx Γ f:=by
  intro x m hm2
  refine Jb h (by simp) (by simp only [V.closed,Qw,V.noSl,JL,and_self,and_true,true_and]) (by simp only [V.closed,Qw,V.noSl,JL,and_self,and_true,true_and]) fun C hC hm=>?_
  subst hC
  unfold VS
  have e:decide (Uy x 0 m≥0) = m.contains x:=by
    have:=xJ x m 0
    rw [Bool.eq_iff_iff];simp only [decide_eq_true_eq,List.contains_eq_mem];exact this
  repeat' (first|refine Qp fun K' hK=>?_|refine Qt fun K' hK=>?_|refine Qq ?_|refine Qr ?_|refine Qa ?_|((first|refine Qs ⟨_,rfl,fun hc=>?_,fun hc=>?_⟩|refine QM (fun hc=>?_) (fun hc=>?_)|refine QN (fun hc=>?_) (fun hc=>?_))<;>first|(cases hc;done)|((try simp only [znz] at hc);first|exact znf|skip))|refine Qv ?_|refine Qu ?_|simp (maxSteps:=1000000) only [go_sem,e]|(refine hK _ ?_;clear hK K')|apply And.intro|(apply QX;(focus first|exact (QC _ _ zsd).b))|exact zlo|omega|exact zms)
  all_goals (refine Je _ rfl ?_;simp only [go_sem])
theorem aly (c:UInt8):decide (Lib.indexByte [45,33,43] c≥0) = decide (c = 45∨c = 33∨c = 43):=by
  by_cases h1:c = 45
  · subst h1;decide
  · by_cases h2:c = 33
    · subst h2;decide
    · by_cases h3:c = 43
      · subst h3;decide
      · have:Lib.indexByte [45,33,43] c = -1:=by
          simp [Lib.indexByte,Ne.symm h1,Ne.symm h2,Ne.symm h3]
        rw [this];simp [h1,h2,h3]
def sgn (c:UInt8):List UInt8:=if c = 0 then [] else [c]
theorem acH {p:Int→Bool} {l:List Int} {k:Nat} {x:Int} (h:l[k]? = some x):(l.take (k + 1)).filter p = (l.take k).filter p++(if p x = true then [x] else []):=by
  rw [List.take_add_one,h,List.filter_append]
  congr 1
  by_cases hx:p x = true<;>simp [hx]
def VI:List AO:=[mv 33 1,xo 34 (.slstr (.t 33) none (some (.c (V.int 1)))),mv 35 1,xo 36 (.slstr (.t 35) (some (.c (V.int 1))) none),mv 5 34,mv 1 36]
def VV:List (List Nat):=[[],[0],[],[2],[1,0,1],[3,4,0,1,2,3,4]]
def VC:OT:=.one 0 (.one 1 (.one 2 (.one 3 (.one 4 (.one 5 (.done))))))
def Jd:OP:=.one 0 false [] (mv 33 1) (.one 1 false [] (xo 34 (.slstr (.t 33) none (some (.c (V.int 1))))) (.one 2 false [] (mv 35 1) (.one 3 false [] (xo 36 (.slstr (.t 35) (some (.c (V.int 1))) none)) (.one 4 false [] (mv 5 34) (.one 5 false [] (mv 1 36) (.done))))))
theorem QJ:okR (VI) VV [] VC = true:=by kernel_rfl
theorem QH:Vo (ris (VI) VV []) VC = Jd:=by kernel_rfl
def VH:List AO:=[mv 108 0,mv 109 0,mv 110 10,mv 111 0,nk 112 111,fa 113 1 112,ld 114 1 113,ld 115 1 6,xo 116 (.append 1 8 [(.int .i64 0)] (.t 114) (.t 115)),nk 117 108,fa 118 0 117,xs 1 118 110,nk 119 109,fa 120 1 119,xs 1 120 116]
def VU:List (List Nat):=[[],[],[],[],[3],[4],[5],[],[6,7],[0,0,2,6,8],[9,0,2,6,8],[10,2,8,0,2,6,8],[1,0,1,2,3,4,5,6,7,8,9,10,11],[12,0,1,2,3,4,5,6,7,8,9,10,11],[13,8,11,0,1,2,3,4,5,6,7,8,9,10,11]]
def VB:OT:=.one 0 (.one 1 (.one 2 (.one 3 (.one 4 (.one 5 (.or 6 (.or 7 (.one 8 (.one 9 (.one 10 (.one 11 (.one 12 (.one 13 (.one 14 (.done)))))))) (.done)) (.or 7 (.one 6 (.one 8 (.one 9 (.one 10 (.one 11 (.one 12 (.one 13 (.one 14 (.done))))))))) (.done))))))))
def Jc:OP:=.one 0 false [] (mv 108 0) (.one 1 false [] (mv 109 0) (.one 2 false [] (mv 110 10) (.one 3 false [] (mv 111 0) (.one 4 false [] (nk 112 111) (.one 5 false [] (fa 113 1 112) (.or 6 true [] (ld 114 1 113) (.or 7 true [] (ld 115 1 6) (.one 8 true [] (xo 116 (.append 1 8 [(.int .i64 0)] (.t 114) (.t 115))) (.one 9 false [] (nk 117 108) (.one 10 false [] (fa 118 0 117) (.one 11 true [] (xs 1 118 110) (.one 12 false [] (nk 119 109) (.one 13 false [] (fa 120 1 119) (.one 14 true [8] (xs 1 120 116) (.done)))))))) (.done)) (.or 7 true [] (ld 115 1 6) (.one 6 true [] (ld 114 1 113) (.one 8 true [] (xo 116 (.append 1 8 [(.int .i64 0)] (.t 114) (.t 115))) (.one 9 false [] (nk 117 108) (.one 10 false [] (fa 118 0 117) (.one 11 true [] (xs 1 118 110) (.one 12 false [] (nk 119 109) (.one 13 false [] (fa 120 1 119) (.one 14 true [8] (xs 1 120 116) (.done))))))))) (.done))))))))
theorem QI:okR (VH) VU [6,7] VB = true:=by kernel_rfl
theorem QG:Vo (ris (VH) VU [6,7]) VB = Jc:=by kernel_rfl def c_suitespec_row__word (U7 Yr Xc Xb QL:Nat):AC:=QF [0,1] (.reg [mc 4 (V.bool false)]) (QF [0,1] (QF [0,1,16] (.reg [mv 15 1,bc 16 .eql 15 (V.str [64,115,116,114,101,110,103,116,104])]) (.cond (.t 16) (QF [] (.reg [mv 17 0,mv 18 0,nk 19 18,fa 20 0 19,ld 21 1 20,cl 22 U7 [21],nk 23 17,fa 24 0 23,xs 1 24 22]) (QF [4] (.reg [mc 4 (V.bool true)]) (.ret))) (.skip))) (QF [0,1,5] (.reg [mc 5 (V.str [])]) (QF [0,1,5] (QF [0,1,5,32] (.reg [mv 25 1,bc 26 .neq 25 (V.str []),mv 27 26,mg 28 1 27 true,xg 29 (.idxS (.t 28) (.c (V.int 0))) 27 true,xg 30 (.call Yr [(.c (V.str [45,33,43])),(.t 29)]) 27 true,xg 31 (.bin .geq (.t 30) (.c (V.int 0))) 27 true,xo 32 (.pick (.t 27) (.t 31) (.c (V.bool false)))]) (.cond (.t 32) (aaY [] VC (Jd) (VI) VV) (.skip))) (QF [0,5,6,7] (.reg [mv 38 1,cl 39 Xc [38],mv 37 39,ex 40 37 0,ex 41 37 1,xo 6 (.alloc [.nil 1]),xs 1 6 40,mv 7 41]) (QF [0,5,6] (QF [0,5,6,43] (.reg [mv 42 7,xo 43 (.un .not (.t 42))]) (.cond (.t 43) (QF [4] (.reg [mc 4 (V.bool false)]) (.ret)) (.skip))) (QF [0,5,6,8] (.reg [xo 44 (.mkfn Xb [(.t 6)]),mv 8 44]) (QF [0,5,6,8,9,10] (.reg [xo 9 (.mknil 1),xo 10 (.mknil 1)]) (QF [0,5,6,9,10] (QF [0,5,6,8,9,10,48,49,50] (.reg [mv 45 0,nk 46 45,fa 47 0 46,ld 48 1 47,ln 49 48,mc 50 (V.int 0)]) (.block 0 (Wv [0,5,6,8,9,10,48,49,50] (QF [0,5,6,8,9,10,48,49,50,51] (.reg [bn 51 .lss 50 49]) (QF [0,5,6,8,9,10,48,49,50] (.cond (.t 51) (.skip) (.exit 0)) (QF [0,5,6,8,9,10,48,49,50] (.block 1 (QF [0,5,6,8,9,10,12,48,49,50] (.reg [ia 52 1 48 50,ld 53 1 52,mv 12 53]) (QF [0,5,6,8,9,10,12,48,49,50,56] (.reg [mv 54 8,mv 55 12,xo 56 (.callv (.t 54) [(.t 55)])]) (.cond (.t 56) (.reg [mv 57 9,mv 58 12,xo 59 (.bslice 1 1 false [(.int .i64 0)] [(0,(.t 58))]),xo 60 (.append 1 8 [(.int .i64 0)] (.t 57) (.t 59)),mv 9 60]) (.reg [mv 61 10,mv 62 12,xo 63 (.bslice 1 1 false [(.int .i64 0)] [(0,(.t 62))]),xo 64 (.append 1 8 [(.int .i64 0)] (.t 61) (.t 63)),mv 10 64]))))) (.reg [bc 65 .add 50 (V.int 1),mv 50 65]))))))) (QF [] (QF [0,6,9,10,66] (.reg [mv 66 5]) (.block 2 (QF [0,6,9,10,66,100] (.reg [bc 101 .eql 66 (V.str [45]),mv 100 101]) (.cond (.t 100) (.reg [mv 102 0,mv 103 10,nk 104 102,fa 105 0 104,xs 1 105 103]) (QF [0,6,9,10,66,106] (.reg [bc 107 .eql 66 (V.str [33]),mv 106 107]) (.cond (.t 106) (aaY [6,7] VB (Jc) (VH) VU) (QF [0,6,9,10,121] (.reg [bc 122 .eql 66 (V.str [43]),mv 121 122]) (.cond (.t 121) (.reg [mv 123 0,mv 124 10,mv 125 9,xo 126 (.append 1 8 [(.int .i64 0)] (.t 124) (.t 125)),nk 127 123,fa 128 0 127,xs 1 128 126]) (QF [0,67,68,69] (.reg [ld 67 1 6,ln 68 67,mc 69 (V.int 0)]) (.block 3 (Wv [0,67,68,69] (QF [0,67,68,69,70] (.reg [bn 70 .lss 69 68]) (QF [0,67,68,69] (.cond (.t 70) (.skip) (.exit 3)) (QF [0,67,68,69] (.block 4 (QF [0,14,67,68,69] (.reg [ia 71 1 67 69,ld 72 1 71,mv 14 72]) (QF [0,14,67,68,69,88] (.reg [mv 73 0,nk 74 73,fa 75 0 74,ld 76 1 75,mv 77 14,cl 78 QL [76,77],xo 79 (.un .not (.t 78)),mv 80 79,mg 81 0 80 true,xg 82 (.nilck (.t 81)) 80 true,xg 83 (.faddr 1 (.t 82)) 80 true,xg 84 (.load false 1 (.t 83)) 80 true,mg 85 14 80 true,xg 86 (.call QL [(.t 84),(.t 85)]) 80 true,xg 87 (.un .not (.t 86)) 80 true,xo 88 (.pick (.t 80) (.t 87) (.c (V.bool false)))]) (.cond (.t 88) (.reg [mv 89 0,mv 90 0,nk 91 90,fa 92 0 91,ld 93 1 92,mv 94 14,xo 95 (.bslice 1 1 false [(.int .i64 0)] [(0,(.t 94))]),xo 96 (.append 1 8 [(.int .i64 0)] (.t 93) (.t 95)),nk 97 89,fa 98 0 97,xs 1 98 96]) (.skip))))) (.reg [bc 99 .add 69 (V.int 1),mv 69 99]))))))))))))))) (QF [4] (.reg [mc 4 (V.bool true)]) (.ret))))))))))) def r_suitespec_row__word:List Y9:=[.tmp 4]
def Ua (Γ:Env) (f:Nat):Prop:=∀ (w:List UInt8) (l k:List Int) (hw:w.length < 2 ^ 30) (hr:ahe (l,k)) (hk:k.length < 2 ^ 30),EvT Γ f [V.str w] 1 1 (l.map V.int) (k.map V.int) (V.bool (wordOk w)) (((if wordOk w then doR w (l,k) else (l,k)).1).map V.int) (((if wordOk w then doR w (l,k) else (l,k)).2).map V.int)
theorem vb {Γ:Env} {f U7 Yr Xc Xb QL:Nat} (h:Has Γ.P f 129 (c_suitespec_row__word U7 Yr Xc Xb QL) r_suitespec_row__word) (JK:qP Γ U7) (Ju:UV Γ Yr) (JA:Ke Γ Xc) (Jf:Vx Γ Xb) (QC:JY Γ QL):Ua Γ f:=by
  intro w l k hw hr hk
  refine adJ h (by simp) (by simp only [V.closed,Qw,V.noSl,JL,and_self,and_true,true_and]) fun C hC hm=>?_
  subst hC
  unfold c_suitespec_row__word
  have hl16:l.length≤16:=hr.len
  by_cases h0:w = akS
  · have e1:wordOk w = true:=by simp [wordOk,h0]
    have e2:doR w (l,k) = (xU l,k):=by simp [doR,h0]
    rw [e1,if_pos rfl,e2]
    have e3:(w == [64,115,116,114,101,110,103,116,104]) = true:=by simp [h0,akS]
    repeat' (first|refine Qp fun K' hK=>?_|refine Qt fun K' hK=>?_|refine Qm 6 (fun _=>true) rfl (QJ) (QH) fun K' hK=>?_|refine Qn 6 (fun _=>true) rfl (QJ) (QH) fun K' hK=>?_|refine Qm 15 (fun _=>false) rfl (QI) (QG) fun K' hK=>?_|refine Qn 15 (fun _=>false) rfl (QI) (QG) fun K' hK=>?_|refine Qq ?_|refine Qr ?_|refine Qa ?_|((first|refine Qs ⟨_,rfl,fun hc=>?_,fun hc=>?_⟩|refine QM (fun hc=>?_) (fun hc=>?_)|refine QN (fun hc=>?_) (fun hc=>?_))<;>first|(cases hc;done)|((try simp only [znz] at hc);first|exact znf|skip))|refine Qv ?_|refine Qu ?_|simp (maxSteps:=1000000) only [go_sem,e3,List.take_length,Jd,Jc]|(refine hK _ ?_;clear hK K')|apply And.intro|((first|apply Xh|apply Yt);(focus first|exact (JK _ zsd)))|((first|apply QX|apply Jz);(focus first|exact (Ju _ _).b|exact (JA _ zsd).b|exact (Jf _ _ zsd).b|exact (QC _ _ zsd).b))|exact zlo|omega|exact zms)
    all_goals first
      | (refine ji _ _ _ _ _ rfl (by simp only [go_sem]) rfl rfl rfl (by decide) (by decide) (by decide) ⟨_,rfl⟩ ⟨_,rfl⟩ ?_ ?_ ?_ ?_<;>first|rfl|(simp;done))
  · have e3:(w == [64,115,116,114,101,110,103,116,104]) = false:=aeu h0
    have ed:doR w (l,k) = doG (WF w).1 (aaS (WF w).2).1 (l,k):=by rw [doR,aeu h0];rfl
    have eo:wordOk w = (aaS (WF w).2).2:=by rw [wordOk,aeu h0,Bool.false_or]
    have hlen:(WF w).2.length≤w.length:=by
      cases w with
      | nil=>simp [WF]
      | cons c r=>rw [jW];split<;>simp
    have hs:=(JA (WF w).2 (by omega)).b
    have hsl:=ae3 (WF w).2
    have hnd:=aiX (WF w).2
    rw [ed,eo]
    refine Qp fun K' hK=>?_
    simp (maxSteps:=1000000) only [go_sem]
    refine hK _ ?_
    clear hK
    clear K'
    (try simp only [go_sem])
    refine Qq ?_
    refine Qp fun K' hK=>?_
    simp (maxSteps:=1000000) only [go_sem,e3]
    refine hK _ ?_
    clear hK
    clear K'
    (try simp only [go_sem])
    refine Qs ⟨_,rfl,fun hc=>Bool.noConfusion hc,fun hc=>?_⟩
    refine Qr ?_
    (try simp only [go_sem])
    refine Qp fun K' hK=>?_
    simp (maxSteps:=1000000) only [go_sem]
    refine hK _ ?_
    clear hK
    clear K'
    (try simp only [go_sem])
    have hcut:∃ good:Unit→Prop,good ()∧True:=⟨fun _=>True,trivial,trivial⟩
    refine K5 (ι:=Unit) (fun _=>True) (fun _=>Ym [(0,.ptr 0 0),(1,V.str (WF w).2),(5,V.str (sgn (WF w).1))] [(0,.box true [.hd 3 0 (l.map V.int).length,.hd 4 0 (k.map V.int).length]),(1,.dead),(2,.dead),(3,.buf true 1 (l.map V.int)),(4,.buf true 1 (k.map V.int))] 5) (fun K' hK'=>?_) (fun _ _=>?_)
    · rcases w with _|⟨c,r⟩
      · repeat' (first|refine Qp fun K' hK=>?_|refine Qt fun K' hK=>?_|refine Qm 6 (fun _=>true) rfl (QJ) (QH) fun K' hK=>?_|refine Qn 6 (fun _=>true) rfl (QJ) (QH) fun K' hK=>?_|refine Qm 15 (fun _=>false) rfl (QI) (QG) fun K' hK=>?_|refine Qn 15 (fun _=>false) rfl (QI) (QG) fun K' hK=>?_|refine Qq ?_|refine Qr ?_|refine Qa ?_|((first|refine Qs ⟨_,rfl,fun hc=>?_,fun hc=>?_⟩|refine QM (fun hc=>?_) (fun hc=>?_)|refine QN (fun hc=>?_) (fun hc=>?_))<;>first|(cases hc;done)|((try simp only [znz] at hc);first|exact znf|skip))|refine Qv ?_|refine Qu ?_|simp (maxSteps:=1000000) only [go_sem,Jd,Jc]|(refine hK _ ?_;clear hK K')|apply And.intro|((first|apply Xh|apply Yt);(focus first|exact (JK _ zsd)))|((first|apply QX|apply Jz);(focus first|exact (Ju _ _).b|exact (JA _ zsd).b|exact (Jf _ _ zsd).b|exact (QC _ _ zsd).b))|exact zlo|omega|exact zms)
        all_goals exact hK' _ () (Jp []) trivial (Jq [] (by simp only [go_sem,and_true,true_and,implies_true,Option.some.injEq,exists_eq_left',Ql,Qo];(repeat' (first|rfl|apply And.intro|omega|exact fun h=>h|exact Exists.intro _ rfl))) (by simp only [go_sem,and_true,true_and,implies_true,Option.some.injEq,exists_eq_left',Ql,Qo];(repeat' (first|rfl|apply And.intro|omega|exact fun h=>h|exact Exists.intro _ rfl))) (by simp [Jp]) (by simp) (by omega))
      · have hib:=aly c
        by_cases hc:c = 45∨c = 33∨c = 43
        · have hsv:WF (c :: r) = (c,r):=by rw [jW,if_pos hc]
          rw [decide_eq_true hc] at hib
          have hsg:sgn c = [c]:=by rw [sgn,if_neg];rintro rfl;simp at hc
          have e4:(c :: r != []) = true:=rfl
          simp only [hsv,hsg] at hK'
          repeat' (first|refine Qp fun K' hK=>?_|refine Qt fun K' hK=>?_|refine Qm 6 (fun _=>true) rfl (QJ) (QH) fun K' hK=>?_|refine Qn 6 (fun _=>true) rfl (QJ) (QH) fun K' hK=>?_|refine Qm 15 (fun _=>false) rfl (QI) (QG) fun K' hK=>?_|refine Qn 15 (fun _=>false) rfl (QI) (QG) fun K' hK=>?_|refine Qq ?_|refine Qr ?_|refine Qa ?_|((first|refine Qs ⟨_,rfl,fun hc=>?_,fun hc=>?_⟩|refine QM (fun hc=>?_) (fun hc=>?_)|refine QN (fun hc=>?_) (fun hc=>?_))<;>first|(cases hc;done)|((try simp only [znz] at hc);first|exact znf|skip))|refine Qv ?_|refine Qu ?_|simp (maxSteps:=1000000) only [go_sem,hib,e4,List.take_length,Nat.add_sub_cancel,Jd,Jc]|(refine hK _ ?_;clear hK K')|apply And.intro|((first|apply Xh|apply Yt);(focus first|exact (JK _ zsd)))|((first|apply QX|apply Jz);(focus first|exact (Ju _ _).b|exact (JA _ zsd).b|exact (Jf _ _ zsd).b|exact (QC _ _ zsd).b))|exact zlo|omega|exact zms)
          all_goals first|exact hK' _ () (Jp []) trivial (Jq [] (by simp only [go_sem,and_true,true_and,implies_true,Option.some.injEq,exists_eq_left',Ql,Qo];(repeat' (first|rfl|apply And.intro|omega|exact fun h=>h|exact Exists.intro _ rfl))) (by simp only [go_sem,and_true,true_and,implies_true,Option.some.injEq,exists_eq_left',Ql,Qo];(repeat' (first|rfl|apply And.intro|omega|exact fun h=>h|exact Exists.intro _ rfl))) (by simp [Jp]) (by simp) (by omega))
        · have hsv:WF (c :: r) = (0,c :: r):=by rw [jW,if_neg hc]
          have hsg:sgn 0 = []:=rfl
          rw [decide_eq_false hc] at hib
          simp only [hsv,hsg] at hK'
          have e4:(c :: r != []) = true:=rfl
          repeat' (first|refine Qp fun K' hK=>?_|refine Qt fun K' hK=>?_|refine Qm 6 (fun _=>true) rfl (QJ) (QH) fun K' hK=>?_|refine Qn 6 (fun _=>true) rfl (QJ) (QH) fun K' hK=>?_|refine Qm 15 (fun _=>false) rfl (QI) (QG) fun K' hK=>?_|refine Qn 15 (fun _=>false) rfl (QI) (QG) fun K' hK=>?_|refine Qq ?_|refine Qr ?_|refine Qa ?_|((first|refine Qs ⟨_,rfl,fun hc=>?_,fun hc=>?_⟩|refine QM (fun hc=>?_) (fun hc=>?_)|refine QN (fun hc=>?_) (fun hc=>?_))<;>first|(cases hc;done)|((try simp only [znz] at hc);first|exact znf|skip))|refine Qv ?_|refine Qu ?_|simp (maxSteps:=1000000) only [go_sem,hib,e4,Jd,Jc]|(refine hK _ ?_;clear hK K')|apply And.intro|((first|apply Xh|apply Yt);(focus first|exact (JK _ zsd)))|((first|apply QX|apply Jz);(focus first|exact (Ju _ _).b|exact (JA _ zsd).b|exact (Jf _ _ zsd).b|exact (QC _ _ zsd).b))|exact zlo|omega|exact zms)
          all_goals first|exact hK' _ () (Jp []) trivial (Jq [] (by simp only [go_sem,and_true,true_and,implies_true,Option.some.injEq,exists_eq_left',Ql,Qo];(repeat' (first|rfl|apply And.intro|omega|exact fun h=>h|exact Exists.intro _ rfl))) (by simp only [go_sem,and_true,true_and,implies_true,Option.some.injEq,exists_eq_left',Ql,Qo];(repeat' (first|rfl|apply And.intro|omega|exact fun h=>h|exact Exists.intro _ rfl))) (by simp [Jp]) (by simp) (by omega))
    · have hcase:(WF w).1 = 0∨(WF w).1 = 45∨(WF w).1 = 33∨(WF w).1 = 43:=by
        cases w with
        | nil=>exact .inl rfl
        | cons c r =>
          rw [jW];split
          · rename_i h;exact .inr h
          · exact .inl rfl
      generalize WF w = sv at *
      obtain ⟨sg,v⟩:=sv
      simp only at hs hsl hnd hlen hcase ⊢
      generalize aaS v = S at *
      obtain ⟨m,ok⟩:=S
      simp only at hs hsl hnd ⊢
      rcases ok with _|_
      · simp only [Bool.false_eq_true,if_false]
        repeat' (first|refine Qp fun K' hK=>?_|refine Qt fun K' hK=>?_|refine Qm 6 (fun _=>true) rfl (QJ) (QH) fun K' hK=>?_|refine Qn 6 (fun _=>true) rfl (QJ) (QH) fun K' hK=>?_|refine Qm 15 (fun _=>false) rfl (QI) (QG) fun K' hK=>?_|refine Qn 15 (fun _=>false) rfl (QI) (QG) fun K' hK=>?_|refine Qq ?_|refine Qr ?_|refine Qa ?_|((first|refine Qs ⟨_,rfl,fun hc=>?_,fun hc=>?_⟩|refine QM (fun hc=>?_) (fun hc=>?_)|refine QN (fun hc=>?_) (fun hc=>?_))<;>first|(cases hc;done)|((try simp only [znz] at hc);first|exact znf|skip))|refine Qv ?_|refine Qu ?_|simp (maxSteps:=1000000) only [go_sem,Ym,Jd,Jc]|(refine hK _ ?_;clear hK K')|apply And.intro|((first|apply Xh|apply Yt);(focus first|exact (JK _ zsd)))|((first|apply QX|apply Jz);(focus first|exact hs|exact (Ju _ _).b|exact (JA _ zsd).b|exact (Jf _ _ zsd).b|exact (QC _ _ zsd).b))|exact zlo|omega|exact zms)
        all_goals first
          | (refine ji _ _ _ _ _ rfl (by simp only [go_sem]) rfl rfl rfl (by decide) (by decide) (by decide) ⟨_,rfl⟩ ⟨_,rfl⟩ ?_ ?_ ?_ ?_<;>first|rfl|(simp;done))
      · simp only [if_true]
        repeat' (first|refine Qp fun K' hK=>?_|refine Qt fun K' hK=>?_|refine Qm 6 (fun _=>true) rfl (QJ) (QH) fun K' hK=>?_|refine Qn 6 (fun _=>true) rfl (QJ) (QH) fun K' hK=>?_|refine Qm 15 (fun _=>false) rfl (QI) (QG) fun K' hK=>?_|refine Qn 15 (fun _=>false) rfl (QI) (QG) fun K' hK=>?_|refine Qq ?_|refine Qr ?_|refine Qa ?_|((first|refine Qs ⟨_,rfl,fun hc=>?_,fun hc=>?_⟩|refine QM (fun hc=>?_) (fun hc=>?_)|refine QN (fun hc=>?_) (fun hc=>?_))<;>first|(cases hc;done)|((try simp only [znz] at hc);first|exact znf|skip))|refine Qv ?_|refine Qu ?_|simp (maxSteps:=1000000) only [go_sem,Ym,Jd,Jc]|(refine hK _ ?_;clear hK K')|apply And.intro|((first|apply Xh|apply Yt);(focus first|exact (JK _ zsd)))|((first|apply QX|apply Jz);(focus first|exact hs|exact (Ju _ _).b|exact (JA _ zsd).b|exact (Jf _ _ zsd).b|exact (QC _ _ zsd).b))|exact zlo|omega|exact zms)
        refine JF (ι:=Nat) (fun j=>j≤l.length) (fun j=>Ym [(0,.ptr 0 0),(5,V.str (sgn sg)),(6,.ptr 5 0),(8,.clo Xb [.ptr 5 0]),(9,.hd 6 0 ((l.take j).filter fun x=>m.contains x).length),(10,.hd 7 0 (Q7 (l.take j) m).length),(48,.hd 3 0 (l.map V.int).length),(49,V.int (l.map V.int).length),(50,V.int j)] [(0,.box true [.hd 3 0 (l.map V.int).length,.hd 4 0 (k.map V.int).length]),(1,.dead),(2,.dead),(3,.buf true 1 (l.map V.int)),(4,.buf true 1 (k.map V.int)),(5,.box true [.sl 1 (m.map V.int)]),(6,.buf true 1 (((l.take j).filter fun x=>m.contains x).map V.int)),(7,.buf true 1 ((Q7 (l.take j) m).map V.int))] 8) (fun j=>l.length - j) 0 (by omega) (Jp [(5,5005),(6,12005),(7,13005)]) (Jq [(5,5005),(6,12005),(7,13005)] (by simp only [go_sem,and_true,true_and,implies_true,Option.some.injEq,exists_eq_left',Ql,Qo];(repeat' (first|rfl|apply And.intro|omega|exact fun h=>h|exact Exists.intro _ rfl))) (by simp only [go_sem,and_true,true_and,implies_true,Option.some.injEq,exists_eq_left',Ql,Qo];(repeat' (first|rfl|apply And.intro|omega|exact fun h=>h|exact Exists.intro _ rfl))) (by simp [Jp]) (by simp;omega) (by omega)) fun j hj K' hL=>?_
        rcases hd:l.drop j with _|⟨x,r⟩
        · have hjl:=YX hd
          have hj0:j = l.length:=by omega
          subst hj0
          have e1:decide ((l.length:Int) < (((l.map V.int).length:Nat):Int)) = false:=by simp
          have hw1:=Xi l m
          have hw2:(l.filter fun x=>m.contains x).length≤l.length:=List.length_filter_le _ _
          have hcat:Q7 l m++(l.filter fun x=>m.contains x) = Q7 l m++Q7 l (Q7 l m):=by
            congr 1
            unfold Q7
            refine List.filter_congr fun x hx=>?_
            cases hm:m.contains x<;>simp_all
          rw [List.take_length]
          generalize hmv:(l.filter fun x=>m.contains x) = mv at *
          rcases hcase with rfl|rfl|rfl|rfl
          · have hd0:doG 0 m (l,k) = (l++Q7 (Q7 m l) k,k):=rfl
            have hs0:sgn 0 = []:=rfl
            rw [hd0,hs0]
            repeat' (first|refine Qp fun K' hK=>?_|refine Qt fun K' hK=>?_|refine Qm 6 (fun _=>true) rfl (QJ) (QH) fun K' hK=>?_|refine Qn 6 (fun _=>true) rfl (QJ) (QH) fun K' hK=>?_|refine Qm 15 (fun _=>false) rfl (QI) (QG) fun K' hK=>?_|refine Qn 15 (fun _=>false) rfl (QI) (QG) fun K' hK=>?_|refine Qq ?_|refine Qr ?_|refine Qa ?_|((first|refine Qs ⟨_,rfl,fun hc=>?_,fun hc=>?_⟩|refine QM (fun hc=>?_) (fun hc=>?_)|refine QN (fun hc=>?_) (fun hc=>?_))<;>first|(cases hc;done)|((try simp only [znz] at hc);first|exact znf|skip))|refine Qv ?_|refine Qu ?_|simp (maxSteps:=1000000) only [go_sem,Ym,e1,Jd,Jc]|(refine hK _ ?_;clear hK K')|apply And.intro|((first|apply Xh|apply Yt);(focus first|exact (JK _ zsd)))|((first|apply QX|apply Jz);(focus first|exact (Ju _ _).b|exact (JA _ zsd).b|exact (Jf _ _ zsd).b|exact (QC _ _ zsd).b))|exact zlo|omega|exact zms)
            refine JF (ι:=Nat) (fun i=>i≤m.length) (fun i=>Ym [(0,.ptr 0 0),(67,.sl 1 (m.map V.int)),(68,V.int (m.map V.int).length),(69,V.int i)] [(0,.box true [.hd 3 0 (l++Q7 (Q7 (m.take i) l) k).length,.hd 4 0 (k.map V.int).length]),(1,.dead),(2,.dead),(3,.buf true 1 ((l++Q7 (Q7 (m.take i) l) k).map V.int)),(4,.buf true 1 (k.map V.int))] 5) (fun i=>m.length - i) 0 (by omega) (Jp []) (Jq [] (by simp only [go_sem,and_true,true_and,implies_true,Option.some.injEq,exists_eq_left',Ql,Qo];(repeat' (first|rfl|apply And.intro|omega|exact fun h=>h|exact Exists.intro _ rfl))) (by simp only [go_sem,and_true,true_and,implies_true,Option.some.injEq,exists_eq_left',Ql,Qo];simp only [List.take_zero,Q7,List.filter_nil,List.append_nil,List.length_map];(repeat' (first|rfl|apply And.intro|omega|exact fun h=>h|exact Exists.intro _ rfl))) (by simp [Jp]) (by simp) (by omega)) fun i hi K' hL=>?_
            rcases hdi:m.drop i with _|⟨c,r⟩
            · have hil:=YX hdi
              have e2:decide ((i:Int) < (((m.map V.int).length:Nat):Int)) = false:=by simp;omega
              have e3:m.take i = m:=List.take_of_length_le hil
              rw [e3]
              repeat' (first|refine Qp fun K' hK=>?_|refine Qt fun K' hK=>?_|refine Qm 6 (fun _=>true) rfl (QJ) (QH) fun K' hK=>?_|refine Qn 6 (fun _=>true) rfl (QJ) (QH) fun K' hK=>?_|refine Qm 15 (fun _=>false) rfl (QI) (QG) fun K' hK=>?_|refine Qn 15 (fun _=>false) rfl (QI) (QG) fun K' hK=>?_|refine Qq ?_|refine Qr ?_|refine Qa ?_|((first|refine Qs ⟨_,rfl,fun hc=>?_,fun hc=>?_⟩|refine QM (fun hc=>?_) (fun hc=>?_)|refine QN (fun hc=>?_) (fun hc=>?_))<;>first|(cases hc;done)|((try simp only [znz] at hc);first|exact znf|skip))|refine Qv ?_|refine Qu ?_|simp (maxSteps:=1000000) only [go_sem,Ym,e2,Jd,Jc]|(refine hK _ ?_;clear hK K')|apply And.intro|((first|apply Xh|apply Yt);(focus first|exact (JK _ zsd)))|((first|apply QX|apply Jz);(focus first|exact (Ju _ _).b|exact (JA _ zsd).b|exact (Jf _ _ zsd).b|exact (QC _ _ zsd).b))|exact zlo|omega|exact zms)
              all_goals first
                | (refine ji _ _ _ _ _ rfl (by simp only [go_sem]) rfl rfl rfl (by decide) (by decide) (by decide) ⟨_,rfl⟩ ⟨_,rfl⟩ ?_ ?_ ?_ ?_<;>first|rfl|(simp;done))
            · obtain ⟨hi',hgi,hri⟩:=Yp hdi
              have hwi:=JO (k:=i) (by omega)
              have e2:decide ((i:Int) < (((m.map V.int).length:Nat):Int)) = true:=by simp;omega
              have ha:=xQ (m:=l) hgi
              have hnc:c ∉ m.take i:=by
                intro h
                have h2:m.take i++c :: r = m:=by rw [← hdi,List.take_append_drop]
                rw [← h2] at hnd
                exact (List.nodup_append.1 hnd).2.2 c h c (by simp) rfl
              have hal:(Q7 (Q7 (m.take i) l) k).length≤16:=by
                have q1:=Xi (Q7 (m.take i) l) k
                have q2:=Xi (m.take i) l
                rw [List.length_take] at q2;omega
              have hin:c∈l++Q7 (Q7 (m.take i) l) k↔c∈l:=by
                rw [List.mem_append]
                exact ⟨fun h=>h.elim id fun h=>absurd (XS.1 (XS.1 h).1).1 hnc,Or.inl⟩
              have hf1:=xJ c (l++Q7 (Q7 (m.take i) l) k) 0
              have hf2:=xJ c k 0
              have hc1:=(QC (l++Q7 (Q7 (m.take i) l) k) c (by rw [List.length_append];omega)).b
              have hc2:=(QC k c (by omega)).b
              by_cases hcl:c∈l
              · rw [decide_eq_true (hf1.2 (hin.2 hcl))] at hc1
                rw [if_pos (by simpa using hcl),List.append_nil] at ha
                rw [← ha] at hc1 ⊢
                repeat' (first|refine Qp fun K' hK=>?_|refine Qt fun K' hK=>?_|refine Qm 6 (fun _=>true) rfl (QJ) (QH) fun K' hK=>?_|refine Qn 6 (fun _=>true) rfl (QJ) (QH) fun K' hK=>?_|refine Qm 15 (fun _=>false) rfl (QI) (QG) fun K' hK=>?_|refine Qn 15 (fun _=>false) rfl (QI) (QG) fun K' hK=>?_|refine Qq ?_|refine Qr ?_|refine Qa ?_|((first|refine Qs ⟨_,rfl,fun hc=>?_,fun hc=>?_⟩|refine QM (fun hc=>?_) (fun hc=>?_)|refine QN (fun hc=>?_) (fun hc=>?_))<;>first|(cases hc;done)|((try simp only [znz] at hc);first|exact znf|skip))|refine Qv ?_|refine Qu ?_|simp (maxSteps:=1000000) only [go_sem,Ym,e2,hwi,Int.toNat_natCast,List.getElem?_map,hgi,List.take_length,ae0,Jd,Jc]|(refine hK _ ?_;clear hK K')|apply And.intro|((first|apply Xh|apply Yt);(focus first|exact (JK _ zsd)))|((first|apply QX|apply Jz);(focus first|exact hc1|exact (Ju _ _).b|exact (JA _ zsd).b|exact (Jf _ _ zsd).b|exact (QC _ _ zsd).b))|exact zlo|omega|exact zms)
                all_goals first
                  | exact hL _ (i + 1) (Jp []) (by omega) (by omega) (Jq [] (by simp only [go_sem,and_true,true_and,implies_true,Option.some.injEq,exists_eq_left',Ql,Qo];(repeat' (first|rfl|apply And.intro|omega|exact fun h=>h|exact Exists.intro _ rfl))) (by simp only [go_sem,and_true,true_and,implies_true,Option.some.injEq,exists_eq_left',Ql,Qo];(repeat' (first|rfl|apply And.intro|omega|exact fun h=>h|exact Exists.intro _ rfl))) (by simp [Jp]) (by simp) (by omega))
              · rw [decide_eq_false (fun h=>hcl (hin.1 (hf1.1 h)))] at hc1
                rw [if_neg (by simpa using hcl)] at ha
                by_cases hck:c∈k
                · have hb:Q7 (Q7 (m.take (i + 1)) l) k = Q7 (Q7 (m.take i) l) k:=by
                    rw [ha,Q7,List.filter_append];simp [hck,Q7]
                  rw [decide_eq_true (hf2.2 hck)] at hc2
                  rw [← hb] at hc1 ⊢
                  repeat' (first|refine Qp fun K' hK=>?_|refine Qt fun K' hK=>?_|refine Qm 6 (fun _=>true) rfl (QJ) (QH) fun K' hK=>?_|refine Qn 6 (fun _=>true) rfl (QJ) (QH) fun K' hK=>?_|refine Qm 15 (fun _=>false) rfl (QI) (QG) fun K' hK=>?_|refine Qn 15 (fun _=>false) rfl (QI) (QG) fun K' hK=>?_|refine Qq ?_|refine Qr ?_|refine Qa ?_|((first|refine Qs ⟨_,rfl,fun hc=>?_,fun hc=>?_⟩|refine QM (fun hc=>?_) (fun hc=>?_)|refine QN (fun hc=>?_) (fun hc=>?_))<;>first|(cases hc;done)|((try simp only [znz] at hc);first|exact znf|skip))|refine Qv ?_|refine Qu ?_|simp (maxSteps:=1000000) only [go_sem,Ym,e2,hwi,Int.toNat_natCast,List.getElem?_map,hgi,List.take_length,ae0,Jd,Jc]|(refine hK _ ?_;clear hK K')|apply And.intro|((first|apply Xh|apply Yt);(focus first|exact (JK _ zsd)))|((first|apply QX|apply Jz);(focus first|exact hc1|exact hc2|exact (Ju _ _).b|exact (JA _ zsd).b|exact (Jf _ _ zsd).b|exact (QC _ _ zsd).b))|exact zlo|omega|exact zms)
                  all_goals first
                    | exact hL _ (i + 1) (Jp []) (by omega) (by omega) (Jq [] (by simp only [go_sem,and_true,true_and,implies_true,Option.some.injEq,exists_eq_left',Ql,Qo];(repeat' (first|rfl|apply And.intro|omega|exact fun h=>h|exact Exists.intro _ rfl))) (by simp only [go_sem,and_true,true_and,implies_true,Option.some.injEq,exists_eq_left',Ql,Qo];(repeat' (first|rfl|apply And.intro|omega|exact fun h=>h|exact Exists.intro _ rfl))) (by simp [Jp]) (by simp) (by omega))
                · have hb:l++Q7 (Q7 (m.take (i + 1)) l) k = (l++Q7 (Q7 (m.take i) l) k)++[c]:=by
                    rw [ha,Q7,List.filter_append];simp [hck,Q7]
                  rw [decide_eq_false (fun h=>hck (hf2.1 h))] at hc2
                  have hacc:(l++Q7 (Q7 (m.take i) l) k).length≤32:=by rw [List.length_append];omega
                  generalize l++Q7 (Q7 (m.take i) l) k = acc at *
                  have hb2:List.take acc.length (List.map V.int acc)++[V.int c] = (acc++[c]).map V.int:=by
                    rw [List.take_of_length_le (by simp),List.map_append];rfl
                  have hln:acc.length + 1 = (acc++[c]).length:=by simp
                  repeat' (first|refine Qp fun K' hK=>?_|refine Qt fun K' hK=>?_|refine Qm 6 (fun _=>true) rfl (QJ) (QH) fun K' hK=>?_|refine Qn 6 (fun _=>true) rfl (QJ) (QH) fun K' hK=>?_|refine Qm 15 (fun _=>false) rfl (QI) (QG) fun K' hK=>?_|refine Qn 15 (fun _=>false) rfl (QI) (QG) fun K' hK=>?_|refine Qq ?_|refine Qr ?_|refine Qa ?_|((first|refine Qs ⟨_,rfl,fun hc=>?_,fun hc=>?_⟩|refine QM (fun hc=>?_) (fun hc=>?_)|refine QN (fun hc=>?_) (fun hc=>?_))<;>first|(cases hc;done)|((try simp only [znz] at hc);first|exact znf|skip))|refine Qv ?_|refine Qu ?_|simp (maxSteps:=1000000) only [go_sem,Ym,e2,hwi,Int.toNat_natCast,List.getElem?_map,hgi,List.take_length,ae0,Jd,Jc]|(refine hK _ ?_;clear hK K')|apply And.intro|((first|apply Xh|apply Yt);(focus first|exact (JK _ zsd)))|((first|apply QX|apply Jz);(focus first|exact hc1|exact hc2|exact (Ju _ _).b|exact (JA _ zsd).b|exact (Jf _ _ zsd).b|exact (QC _ _ zsd).b))|exact zlo|omega|exact zms)
                  all_goals first
                    | (have hb3:List.map V.int acc++[V.sc (Value.int .i64 c)] = (acc++[c]).map V.int:=by simp
                       rw [hb3,hln]
                       refine hL _ (i + 1) (Jp [(3,27005)]) (by omega) (by omega) ?_
                       rw [hb]
                       exact Jq [(3,27005)] (by simp only [go_sem,and_true,true_and,implies_true,Option.some.injEq,exists_eq_left',Ql,Qo];(repeat' (first|rfl|apply And.intro|omega|exact fun h=>h|exact Exists.intro _ rfl))) (by simp only [go_sem,and_true,true_and,implies_true,Option.some.injEq,exists_eq_left',Ql,Qo];(repeat' (first|rfl|apply And.intro|omega|exact fun h=>h|exact Exists.intro _ rfl))) (by simp [Jp]) (by simp;omega) (by omega))
                    | (simp only [List.length_append] at *;omega)
          · have hd0:doG 45 m (l,k) = (Q7 l m,k):=rfl
            have hs0:sgn 45 = [45]:=rfl
            rw [hd0,hs0]
            repeat' (first|refine Qp fun K' hK=>?_|refine Qt fun K' hK=>?_|refine Qm 6 (fun _=>true) rfl (QJ) (QH) fun K' hK=>?_|refine Qn 6 (fun _=>true) rfl (QJ) (QH) fun K' hK=>?_|refine Qm 15 (fun _=>false) rfl (QI) (QG) fun K' hK=>?_|refine Qn 15 (fun _=>false) rfl (QI) (QG) fun K' hK=>?_|refine Qq ?_|refine Qr ?_|refine Qa ?_|((first|refine Qs ⟨_,rfl,fun hc=>?_,fun hc=>?_⟩|refine QM (fun hc=>?_) (fun hc=>?_)|refine QN (fun hc=>?_) (fun hc=>?_))<;>first|(cases hc;done)|((try simp only [znz] at hc);first|exact znf|skip))|refine Qv ?_|refine Qu ?_|simp (maxSteps:=1000000) only [go_sem,Ym,e1,Jd,Jc]|(refine hK _ ?_;clear hK K')|apply And.intro|((first|apply Xh|apply Yt);(focus first|exact (JK _ zsd)))|((first|apply QX|apply Jz);(focus first|exact (Ju _ _).b|exact (JA _ zsd).b|exact (Jf _ _ zsd).b|exact (QC _ _ zsd).b))|exact zlo|omega|exact zms)
            all_goals first
              | (refine ji _ _ _ _ _ rfl (by simp only [go_sem]) rfl rfl rfl (by decide) (by decide) (by decide) ⟨_,rfl⟩ ⟨_,rfl⟩ ?_ ?_ ?_ ?_<;>first|rfl|(simp;done))
          · have hd0:doG 33 m (l,k) = (Q7 l m,k++m):=rfl
            have hs0:sgn 33 = [33]:=rfl
            rw [hd0,hs0]
            repeat' (first|refine Qp fun K' hK=>?_|refine Qt fun K' hK=>?_|refine Qm 6 (fun _=>true) rfl (QJ) (QH) fun K' hK=>?_|refine Qn 6 (fun _=>true) rfl (QJ) (QH) fun K' hK=>?_|refine Qm 15 (fun _=>false) rfl (QI) (QG) fun K' hK=>?_|refine Qn 15 (fun _=>false) rfl (QI) (QG) fun K' hK=>?_|refine Qq ?_|refine Qr ?_|refine Qa ?_|((first|refine Qs ⟨_,rfl,fun hc=>?_,fun hc=>?_⟩|refine QM (fun hc=>?_) (fun hc=>?_)|refine QN (fun hc=>?_) (fun hc=>?_))<;>first|(cases hc;done)|((try simp only [znz] at hc);first|exact znf|skip))|refine Qv ?_|refine Qu ?_|simp (maxSteps:=1000000) only [go_sem,Ym,e1,List.take_length,Jd,Jc]|(refine hK _ ?_;clear hK K')|apply And.intro|((first|apply Xh|apply Yt);(focus first|exact (JK _ zsd)))|((first|apply QX|apply Jz);(focus first|exact (Ju _ _).b|exact (JA _ zsd).b|exact (Jf _ _ zsd).b|exact (QC _ _ zsd).b))|exact zlo|omega|exact zms)
            all_goals first
              | (refine ji _ _ _ _ _ rfl (by simp only [go_sem]) rfl rfl rfl (by decide) (by decide) (by decide) ⟨_,rfl⟩ ⟨_,rfl⟩ ?_ ?_ ?_ ?_<;>first|rfl|(simp;done))
          · have hd0:doG 43 m (l,k) = (Q7 l m++Q7 l (Q7 l m),k):=rfl
            have hs0:sgn 43 = [43]:=rfl
            rw [hd0,hs0,← hcat]
            repeat' (first|refine Qp fun K' hK=>?_|refine Qt fun K' hK=>?_|refine Qm 6 (fun _=>true) rfl (QJ) (QH) fun K' hK=>?_|refine Qn 6 (fun _=>true) rfl (QJ) (QH) fun K' hK=>?_|refine Qm 15 (fun _=>false) rfl (QI) (QG) fun K' hK=>?_|refine Qn 15 (fun _=>false) rfl (QI) (QG) fun K' hK=>?_|refine Qq ?_|refine Qr ?_|refine Qa ?_|((first|refine Qs ⟨_,rfl,fun hc=>?_,fun hc=>?_⟩|refine QM (fun hc=>?_) (fun hc=>?_)|refine QN (fun hc=>?_) (fun hc=>?_))<;>first|(cases hc;done)|((try simp only [znz] at hc);first|exact znf|skip))|refine Qv ?_|refine Qu ?_|simp (maxSteps:=1000000) only [go_sem,Ym,e1,ae0,Jd,Jc]|(refine hK _ ?_;clear hK K')|apply And.intro|((first|apply Xh|apply Yt);(focus first|exact (JK _ zsd)))|((first|apply QX|apply Jz);(focus first|exact (Ju _ _).b|exact (JA _ zsd).b|exact (Jf _ _ zsd).b|exact (QC _ _ zsd).b))|exact zlo|omega|exact zms)
            all_goals first
              | (refine ji _ _ _ _ _ rfl (by simp only [go_sem]) rfl rfl rfl (by decide) (by decide) (by decide) ⟨_,rfl⟩ ⟨_,rfl⟩ ?_ ?_ ?_ ?_<;>first|rfl|(simp;done))
        · obtain ⟨hj',hget,hr'⟩:=Yp hd
          have hwj:=JO (k:=j) (by omega)
          have e1:decide ((j:Int) < (((l.map V.int).length:Nat):Int)) = true:=by simp;omega
          have h1:=xQ (m:=m) hget
          have h2:=acH (p:=fun x=>m.contains x) hget
          have hl1:(Q7 (l.take j) m).length≤16:=by have:=Xi (l.take j) m;rw [List.length_take] at this;omega
          have hl2:((l.take j).filter fun x=>m.contains x).length≤16:=by have:=List.length_filter_le (fun x=>m.contains x) (l.take j);rw [List.length_take] at this;omega
          have hcl:=(Jf x m (by omega)).b
          generalize Q7 (l.take j) m = rs at *
          generalize (l.take j).filter (fun x=>m.contains x) = mv at *
          rcases hx:m.contains x with _|_
          · rw [hx] at h1 h2 hcl
            simp only [Bool.false_eq_true,if_false,List.append_nil] at h1 h2
            have hb:List.take rs.length (List.map V.int rs)++[V.int x] = (rs++[x]).map V.int:=by
              rw [List.take_of_length_le (by simp),List.map_append];rfl
            have hln:rs.length + 1 = (rs++[x]).length:=by simp
            repeat' (first|refine Qp fun K' hK=>?_|refine Qt fun K' hK=>?_|refine Qm 6 (fun _=>true) rfl (QJ) (QH) fun K' hK=>?_|refine Qn 6 (fun _=>true) rfl (QJ) (QH) fun K' hK=>?_|refine Qm 15 (fun _=>false) rfl (QI) (QG) fun K' hK=>?_|refine Qn 15 (fun _=>false) rfl (QI) (QG) fun K' hK=>?_|refine Qq ?_|refine Qr ?_|refine Qa ?_|((first|refine Qs ⟨_,rfl,fun hc=>?_,fun hc=>?_⟩|refine QM (fun hc=>?_) (fun hc=>?_)|refine QN (fun hc=>?_) (fun hc=>?_))<;>first|(cases hc;done)|((try simp only [znz] at hc);first|exact znf|skip))|refine Qv ?_|refine Qu ?_|simp (maxSteps:=1000000) only [go_sem,Ym,e1,hwj,Int.toNat_natCast,List.getElem?_map,hget,Jd,Jc]|(refine hK _ ?_;clear hK K')|apply And.intro|((first|apply Xh|apply Yt);(focus first|exact (JK _ zsd)))|((first|apply QX|apply Jz);(focus first|exact hcl|exact (Ju _ _).b|exact (JA _ zsd).b|exact (Jf _ _ zsd).b|exact (QC _ _ zsd).b))|exact zlo|omega|exact zms)
            rw [hb,hln]
            refine hL _ (j + 1) (Jp [(7,10008)]) (by omega) (by omega) ?_
            rw [h1,h2]
            exact Jq [(7,10008)] (by simp only [go_sem,and_true,true_and,implies_true,Option.some.injEq,exists_eq_left',Ql,Qo];(repeat' (first|rfl|apply And.intro|omega|exact fun h=>h|exact Exists.intro _ rfl))) (by simp only [go_sem,and_true,true_and,implies_true,Option.some.injEq,exists_eq_left',Ql,Qo];(repeat' (first|rfl|apply And.intro|omega|exact fun h=>h|exact Exists.intro _ rfl))) (by simp [Jp]) (by simp;omega) (by omega)
          · rw [hx] at h1 h2 hcl
            simp only [if_true,List.append_nil] at h1 h2
            have hb:List.take mv.length (List.map V.int mv)++[V.int x] = (mv++[x]).map V.int:=by
              rw [List.take_of_length_le (by simp),List.map_append];rfl
            have hln:mv.length + 1 = (mv++[x]).length:=by simp
            repeat' (first|refine Qp fun K' hK=>?_|refine Qt fun K' hK=>?_|refine Qm 6 (fun _=>true) rfl (QJ) (QH) fun K' hK=>?_|refine Qn 6 (fun _=>true) rfl (QJ) (QH) fun K' hK=>?_|refine Qm 15 (fun _=>false) rfl (QI) (QG) fun K' hK=>?_|refine Qn 15 (fun _=>false) rfl (QI) (QG) fun K' hK=>?_|refine Qq ?_|refine Qr ?_|refine Qa ?_|((first|refine Qs ⟨_,rfl,fun hc=>?_,fun hc=>?_⟩|refine QM (fun hc=>?_) (fun hc=>?_)|refine QN (fun hc=>?_) (fun hc=>?_))<;>first|(cases hc;done)|((try simp only [znz] at hc);first|exact znf|skip))|refine Qv ?_|refine Qu ?_|simp (maxSteps:=1000000) only [go_sem,Ym,e1,hwj,Int.toNat_natCast,List.getElem?_map,hget,Jd,Jc]|(refine hK _ ?_;clear hK K')|apply And.intro|((first|apply Xh|apply Yt);(focus first|exact (JK _ zsd)))|((first|apply QX|apply Jz);(focus first|exact hcl|exact (Ju _ _).b|exact (JA _ zsd).b|exact (Jf _ _ zsd).b|exact (QC _ _ zsd).b))|exact zlo|omega|exact zms)
            rw [hb,hln]
            refine hL _ (j + 1) (Jp [(6,10008)]) (by omega) (by omega) ?_
            rw [h1,h2]
            exact Jq [(6,10008)] (by simp only [go_sem,and_true,true_and,implies_true,Option.some.injEq,exists_eq_left',Ql,Qo];(repeat' (first|rfl|apply And.intro|omega|exact fun h=>h|exact Exists.intro _ rfl))) (by simp only [go_sem,and_true,true_and,implies_true,Option.some.injEq,exists_eq_left',Ql,Qo];(repeat' (first|rfl|apply And.intro|omega|exact fun h=>h|exact Exists.intro _ rfl))) (by simp [Jp]) (by simp;omega) (by omega)
end Av
end
section
set_option linter.unusedSimpArgs false
set_option linter.unusedVariables false
set_option maxRecDepth 10000
set_option maxHeartbeats 4000000
namespace Av
open Go
attribute [local irreducible] AWp V7 Kz KE awS awC jS awQ jY JB Wl jJ awR Ws awB okR Vo ris
def qE (KS Xd WS:Nat):AC:=QF [0] (.reg [xo 2 (.mknil 1),mc 3 (V.int 0),mc 4 (V.int 0)]) (QF [0] (QF [0,15] (.reg [mv 8 0,xo 9 (.lenS (.t 8)),bc 10 .gtr 9 (V.int 8192),mv 11 10,mg 12 0 11 false,xg 13 (.call KS [(.t 12),(.c (V.str [58]))]) 11 false,xg 14 (.bin .geq (.t 13) (.c (V.int 200))) 11 false,xo 15 (.pick (.t 11) (.c (V.bool true)) (.t 14))]) (.cond (.t 15) (QF [2,3,4] (.reg [xo 2 (.mknil 1),mc 3 (V.int 0),mc 4 (V.int 3)]) (.ret)) (.skip))) (QF [0] (QF [0,17] (.reg [mv 16 0,bc 17 .eql 16 (V.str [])]) (.cond (.t 17) (QF [2,3,4] (.reg [xo 2 (.mknil 1),mc 3 (V.int 0),mc 4 (V.int 0)]) (.ret)) (.skip))) (QF [0,5] (.reg [xo 18 (.build [(.slice none 0 0),(.slice none 0 0)] []),xo 19 (.box true 2 (.t 18)),mv 5 19]) (QF [5] (QF [5,21,22,23] (.reg [mv 20 0,xo 21 (.call Xd [(.t 20),(.c (V.str [58]))]),ln 22 21,mc 23 (V.int 0)]) (.block 0 (Wv [5,21,22,23] (QF [5,21,22,23,24] (.reg [bn 24 .lss 23 22]) (QF [5,21,22,23] (.cond (.t 24) (.skip) (.exit 0)) (QF [5,21,22,23] (.block 1 (QF [5,6,7,21,22,23] (.reg [mv 25 23,ia 26 1 21 23,ld 27 1 26,mv 6 25,mv 7 27]) (QF [5,6,21,22,23,31] (.reg [mv 28 5,mv 29 7,cl 30 WS [28,29],xo 31 (.un .not (.t 30))]) (.cond (.t 31) (QF [2,3,4] (.reg [mv 32 6,bc 33 .add 32 (V.int 1),xo 2 (.mknil 1),mv 3 33,mc 4 (V.int 17)]) (.ret)) (.skip))))) (.reg [bc 34 .add 23 (V.int 1),mv 23 34]))))))) (QF [2,3,4] (.reg [mv 35 5,nk 36 35,fa 37 0 36,ld 38 1 37,mv 2 38,mc 3 (V.int 0),mc 4 (V.int 0)]) (.ret)))))) def r_suitespec_Parse:List Y9:=[.tmp 2,.tmp 3,.tmp 4]
def qe (Γ:Env) (f:Nat):Prop:=∀ (s:List UInt8) (hs:s.length < 2 ^ 30),EvC Γ f [V.str s] (jd (UL s))
theorem abh {Γ:Env} {f KS Xd WS:Nat} (h:Has Γ.P f 39 (qE KS Xd WS) r_suitespec_Parse) (XT:wZ Γ KS) (JI:jC Γ Xd) (Yo:Ua Γ WS):qe Γ f:=by
  intro s hs
  refine Wb h (by simp) (aaZ _) fun C hC hm=>?_
  subst hC
  unfold qE
  have hct:=(XT s 58 (by omega)).b
  have hsp:=(JI s 58 (by omega)).b
  have hpos:1≤(Yh 58 s).length:=by
    have:Yh 58 s≠[]:=afL _ _ _
    rcases h:Yh 58 s with _|⟨a,b⟩
    · exact absurd h this
    · simp
  by_cases h1:s.length > 8192
  · have e1:decide ((s.length:Int) > 8192) = true:=by simp;omega
    have e2:UL s = ([],0,3):=by rw [UL,if_pos h1]
    rw [e2,jd]
    repeat' (first|refine Qp fun K' hK=>?_|refine Qt fun K' hK=>?_|refine Qq ?_|refine Qr ?_|refine Qa ?_|((first|refine Qs ⟨_,rfl,fun hc=>?_,fun hc=>?_⟩|refine QM (fun hc=>?_) (fun hc=>?_)|refine QN (fun hc=>?_) (fun hc=>?_))<;>first|(cases hc;done)|((try simp only [znz] at hc);first|exact znf|skip))|refine Qv ?_|refine Qu ?_|simp (maxSteps:=1000000) only [go_sem,e1]|(refine hK _ ?_;clear hK K')|apply And.intro|(apply yU;(focus exact rfl);(focus exact rfl);(focus exact rfl);(focus first|exact (Yo _ _ _ zsd zsd zsd));(focus exact rfl);(focus (simp;done));(focus (simp;done)))|(apply QX;(focus first|exact (XT _ _ zsd).b|exact (JI _ _ zsd).b))|exact zlo|omega|exact zms)
    all_goals (refine Je _ rfl ?_;simp only [go_sem];first|done|rfl|exact ⟨_,_,rfl⟩|trace_state)
  · have e1:decide ((s.length:Int) > 8192) = false:=by simp;omega
    by_cases h2:s = []
    · subst h2
      have e2:UL [] = ([],0,0):=rfl
      have e4:decide (((((Yh 58 []).length - 1:Nat)):Int)≥200) = false:=rfl
      rw [e2,jd]
      repeat' (first|refine Qp fun K' hK=>?_|refine Qt fun K' hK=>?_|refine Qq ?_|refine Qr ?_|refine Qa ?_|((first|refine Qs ⟨_,rfl,fun hc=>?_,fun hc=>?_⟩|refine QM (fun hc=>?_) (fun hc=>?_)|refine QN (fun hc=>?_) (fun hc=>?_))<;>first|(cases hc;done)|((try simp only [znz] at hc);first|exact znf|skip))|refine Qv ?_|refine Qu ?_|simp (maxSteps:=1000000) only [go_sem,e1,e4]|(refine hK _ ?_;clear hK K')|apply And.intro|(apply yU;(focus exact rfl);(focus exact rfl);(focus exact rfl);(focus first|exact (Yo _ _ _ zsd zsd zsd));(focus exact rfl);(focus (simp;done));(focus (simp;done)))|(apply QX;(focus first|exact hct|exact (XT _ _ zsd).b|exact (JI _ _ zsd).b))|exact zlo|omega|exact zms)
      all_goals (refine Je _ rfl ?_;simp only [go_sem];first|done|rfl|exact ⟨_,_,rfl⟩|trace_state)
    · have e3:(s == []) = false:=by simpa using h2
      have hmem:∀ w∈Yh 58 s,w.length < 2 ^ 30:=fun w hw=>by have:=aev hw;omega
      have hlen:=vP 58 s
      by_cases h3:(Yh 58 s).length > 200
      · have e2:UL s = ([],0,3):=by rw [UL,if_neg h1,if_neg h2,if_pos h3]
        have e4:decide (((((Yh 58 s).length - 1:Nat)):Int)≥200) = true:=by simp;omega
        rw [e2,jd]
        repeat' (first|refine Qp fun K' hK=>?_|refine Qt fun K' hK=>?_|refine Qq ?_|refine Qr ?_|refine Qa ?_|((first|refine Qs ⟨_,rfl,fun hc=>?_,fun hc=>?_⟩|refine QM (fun hc=>?_) (fun hc=>?_)|refine QN (fun hc=>?_) (fun hc=>?_))<;>first|(cases hc;done)|((try simp only [znz] at hc);first|exact znf|skip))|refine Qv ?_|refine Qu ?_|simp (maxSteps:=1000000) only [go_sem,e1,e3,e4]|(refine hK _ ?_;clear hK K')|apply And.intro|(apply yU;(focus exact rfl);(focus exact rfl);(focus exact rfl);(focus first|exact (Yo _ _ _ zsd zsd zsd));(focus exact rfl);(focus (simp;done));(focus (simp;done)))|(apply QX;(focus first|exact hct|exact (XT _ _ zsd).b|exact (JI _ _ zsd).b))|exact zlo|omega|exact zms)
        all_goals (refine Je _ rfl ?_;simp only [go_sem];first|done|rfl|exact ⟨_,_,rfl⟩|trace_state)
      · have e2:UL s = goP (Yh 58 s) 0 ([],[]):=by rw [UL,if_neg h1,if_neg h2,if_neg h3]
        have e4:decide (((((Yh 58 s).length - 1:Nat)):Int)≥200) = false:=by simp;omega
        rw [e2,jd]
        generalize Yh 58 s = ws at *
        repeat' (first|refine Qp fun K' hK=>?_|refine Qt fun K' hK=>?_|refine Qq ?_|refine Qr ?_|refine Qa ?_|((first|refine Qs ⟨_,rfl,fun hc=>?_,fun hc=>?_⟩|refine QM (fun hc=>?_) (fun hc=>?_)|refine QN (fun hc=>?_) (fun hc=>?_))<;>first|(cases hc;done)|((try simp only [znz] at hc);first|exact znf|skip))|refine Qv ?_|refine Qu ?_|simp (maxSteps:=1000000) only [go_sem,e1,e3,e4]|(refine hK _ ?_;clear hK K')|apply And.intro|(apply yU;(focus exact rfl);(focus exact rfl);(focus exact rfl);(focus first|exact (Yo _ _ _ zsd zsd zsd));(focus exact rfl);(focus (simp;done));(focus (simp;done)))|(apply QX;(focus first|exact hct|exact hsp|exact (XT _ _ zsd).b|exact (JI _ _ zsd).b))|exact zlo|omega|exact zms)
        refine abt 14000 0 1 rfl rfl ?_
        refine abt 14000 1 1 rfl rfl ?_
        refine JF (ι:=Nat×aiO) (fun q=>q.1≤ws.length∧ahe q.2∧q.2.2.length≤16 * q.1∧goP (ws.drop q.1) q.1 q.2 = goP ws 0 ([],[]))
          (fun q=>Ym [(5,.ptr 0 0),(21,.sl 1 (ws.map V.str)),(22,V.int (ws.map V.str).length),(23,V.int q.1)] [(0,.box true [.hd 1 0 (q.2.1.map V.int).length,.hd 2 0 (q.2.2.map V.int).length]),(1,.buf true 1 (q.2.1.map V.int)),(2,.buf true 1 (q.2.2.map V.int))] 3)
          (fun q=>ws.length - q.1) (0,[],[]) ⟨by simp,alg,by simp,by simp⟩ (Jp [(0,14000),(1,20000),(2,20001)]) (Jq [(0,14000),(1,20000),(2,20001)] (by simp only [go_sem,and_true,true_and,implies_true,Option.some.injEq,exists_eq_left',Ql,Qo];(repeat' (first|rfl|apply And.intro|omega|exact fun h=>h|exact Exists.intro _ rfl))) (by simp only [List.set_cons_zero,List.set_cons_succ,Nat.reduceAdd];simp only [go_sem,and_true,true_and,implies_true,Option.some.injEq,exists_eq_left',Ql,Qo];(repeat' (first|rfl|apply And.intro|omega|exact fun h=>h|exact Exists.intro _ rfl))) (by simp [Jp]) (by simp;omega) (by omega)) fun q hq K' hL=>?_
        obtain ⟨k,l,m⟩:=q
        obtain ⟨q1,q2,q3,hinv⟩:=hq
        simp only at q1 q2 q3 hinv
        simp only
        rcases hd:ws.drop k with _|⟨w,r⟩
        · have hk:=YX hd
          rw [hd,goP] at hinv
          rw [← hinv]
          have e5:decide ((k:Int) < (((ws.map V.str).length:Nat):Int)) = false:=by simp;omega
          simp only [jd]
          repeat' (first|refine Qp fun K' hK=>?_|refine Qt fun K' hK=>?_|refine Qq ?_|refine Qr ?_|refine Qa ?_|((first|refine Qs ⟨_,rfl,fun hc=>?_,fun hc=>?_⟩|refine QM (fun hc=>?_) (fun hc=>?_)|refine QN (fun hc=>?_) (fun hc=>?_))<;>first|(cases hc;done)|((try simp only [znz] at hc);first|exact znf|skip))|refine Qv ?_|refine Qu ?_|simp (maxSteps:=1000000) only [go_sem,Ym,e5]|(refine hK _ ?_;clear hK K')|apply And.intro|(apply yU;(focus exact rfl);(focus exact rfl);(focus exact rfl);(focus first|exact (Yo _ _ _ zsd zsd zsd));(focus exact rfl);(focus (simp;done));(focus (simp;done)))|(apply QX;(focus first|exact (XT _ _ zsd).b|exact (JI _ _ zsd).b))|exact zlo|omega|exact zms)
          all_goals (refine Je _ rfl ?_;simp only [go_sem];rw [List.take_of_length_le (by simp)])
        · obtain ⟨hk',hget,hr⟩:=Yp hd
          have hwm:=hmem w (List.mem_of_getElem? hget)
          have hw:=JO (k:=k) (by omega)
          have e5:decide ((k:Int) < (((ws.map V.str).length:Nat):Int)) = true:=by simp;omega
          rw [hd,goP] at hinv
          have hdo:=Yo w l m hwm q2 (by omega)
          have hdl:=ajJ w (l,m)
          have hdo2:=amc w (l,m) q2
          rcases ho:wordOk w with _|_
          · rw [ho] at hinv hdo
            simp only [Bool.false_eq_true,if_false] at hinv hdo
            rw [← hinv]
            simp only [jd]
            repeat' (first|refine Qp fun K' hK=>?_|refine Qt fun K' hK=>?_|refine Qq ?_|refine Qr ?_|refine Qa ?_|((first|refine Qs ⟨_,rfl,fun hc=>?_,fun hc=>?_⟩|refine QM (fun hc=>?_) (fun hc=>?_)|refine QN (fun hc=>?_) (fun hc=>?_))<;>first|(cases hc;done)|((try simp only [znz] at hc);first|exact znf|skip))|refine Qv ?_|refine Qu ?_|simp (maxSteps:=1000000) only [go_sem,Ym,e5,hw,Int.toNat_natCast,List.getElem?_map,hget]|(refine hK _ ?_;clear hK K')|apply And.intro|(apply yU;(focus exact rfl);(focus exact rfl);(focus exact rfl);(focus first|exact hdo|exact (Yo _ _ _ zsd zsd zsd));(focus exact rfl);(focus (simp;done));(focus (simp;done)))|(apply QX;(focus first|exact (XT _ _ zsd).b|exact (JI _ _ zsd).b))|exact zlo|omega|exact zms)
            all_goals (refine Je _ rfl ?_;simp only [go_sem];first|done|rfl|exact ⟨_,_,rfl⟩|trace_state)
          · rw [ho] at hinv hdo
            simp only [if_true] at hinv hdo
            generalize doR w (l,m) = p at *
            obtain ⟨l2,m2⟩:=p
            simp only at hdo hdl hinv
            repeat' (first|refine Qp fun K' hK=>?_|refine Qt fun K' hK=>?_|refine Qq ?_|refine Qr ?_|refine Qa ?_|((first|refine Qs ⟨_,rfl,fun hc=>?_,fun hc=>?_⟩|refine QM (fun hc=>?_) (fun hc=>?_)|refine QN (fun hc=>?_) (fun hc=>?_))<;>first|(cases hc;done)|((try simp only [znz] at hc);first|exact znf|skip))|refine Qv ?_|refine Qu ?_|simp (maxSteps:=1000000) only [go_sem,Ym,e5,hw,Int.toNat_natCast,List.getElem?_map,hget]|(refine hK _ ?_;clear hK K')|apply And.intro|(apply yU;(focus exact rfl);(focus exact rfl);(focus exact rfl);(focus first|exact hdo|exact (Yo _ _ _ zsd zsd zsd));(focus exact rfl);(focus (simp;done));(focus (simp;done)))|(apply QX;(focus first|exact (XT _ _ zsd).b|exact (JI _ _ zsd).b))|exact zlo|omega|exact zms)
            refine hL _ (k + 1,l2,m2) (Jp [(1,8003),(2,8004)]) ⟨by simp only;omega,hdo2,by simp only;omega,by simp only;rw [hr];exact hinv⟩ (by simp only;omega) (Jq [(1,8003),(2,8004)] (by simp only [go_sem,and_true,true_and,implies_true,Option.some.injEq,exists_eq_left',Ql,Qo];(repeat' (first|rfl|apply And.intro|omega|exact fun h=>h|exact Exists.intro _ rfl))) (by simp only [go_sem,and_true,true_and,implies_true,Option.some.injEq,exists_eq_left',Ql,Qo];(repeat' (first|rfl|apply And.intro|omega|exact fun h=>h|exact Exists.intro _ rfl))) (by simp [Jp]) (by simp;omega) (by omega))
end Av
end
section
set_option linter.unusedSimpArgs false
set_option linter.unusedVariables false
set_option maxRecDepth 10000
set_option maxHeartbeats 4000000
namespace Av
open Go
attribute [local irreducible] AWp V7 Kz KE awS awC jS awQ jY JB Wl jJ awR Ws awB okR Vo ris
def abr (l:List Int) (k:Nat):List V:=[.sl 1 (l.map V.int),V.int k]
theorem J7 (l:List Int) (k:Nat):Qw (abr l k):=by simp only [abr,V.closed,Qw,and_self]
def vl (l:List Int) (k:Nat) (n:Int):Int×Nat:=if k < l.length then (akZ (l.getD k 0) n,k + 1) else (0,k)
theorem aii {a n:Int} (h1:1≤n) (h2:n < 2 ^ 62):0≤akZ a n∧akZ a n < n:=by
  unfold akZ
  rw [if_neg (by omega)]
  have ha:=Int.tmod_lt_of_pos a (show 0 < n by omega)
  have hb:-n < a.tmod n:=by
    have:=Int.tmod_lt_of_pos (-a) (show 0 < n by omega)
    rw [Int.neg_tmod] at this;omega
  rw [Yq (by omega) (by omega)]
  exact ⟨Int.tmod_nonneg _ (by omega),Int.tmod_lt_of_pos _ (by omega)⟩
theorem agU {l:List Int} {k:Nat} {n:Int} (h1:1≤n) (h2:n < 2 ^ 62):0≤(vl l k n).1∧(vl l k n).1 < n:=by
  unfold vl;split
  · exact aii h1 h2
  · show (0:Int)≤0∧(0:Int) < n;omega
def vB:AC:=QF [0] (.reg [mc 2 (V.bool false)]) (QF [2] (.reg [mv 3 0,ln 4 3,bc 5 .leq 4 (V.int 400),mv 2 5]) (.ret)) def r_make_Light:List Y9:=[.tmp 2]
def wM (Γ:Env) (f:Nat):Prop:=∀ (l:List Int),EvN Γ f [.sl 1 (l.map V.int)] (V.bool (decide ((l.length:Int)≤400)))
theorem afs {Γ:Env} {f:Nat} (h:Has Γ.P f 6 vB r_make_Light) :wM Γ f:=by
  intro l
  refine Jb h (by simp) (by simp only [V.closed,Qw,V.noSl,JL,and_self,and_true,true_and]) (by simp only [V.closed,Qw,V.noSl,JL,and_self,and_true,true_and]) fun C hC hm=>?_
  subst hC
  unfold vB
  repeat' (first|refine Qp fun K' hK=>?_|refine Qt fun K' hK=>?_|refine Qq ?_|refine Qr ?_|refine Qa ?_|((first|refine Qs ⟨_,rfl,fun hc=>?_,fun hc=>?_⟩|refine QM (fun hc=>?_) (fun hc=>?_)|refine QN (fun hc=>?_) (fun hc=>?_))<;>first|(cases hc;done)|((try simp only [znz] at hc);first|exact znf|skip))|refine Qv ?_|refine Qu ?_|simp (maxSteps:=1000000) only [go_sem,List.length_map]|(refine hK _ ?_;clear hK K')|apply And.intro|exact zlo|omega|exact zms)
  refine Je _ rfl ?_;simp only [go_sem]
def aaQ:AC:=QF [0] (.reg [mc 2 (.sc (.pointer none))]) (QF [2] (.reg [mv 3 0,xo 4 (.build [(.slice none 0 0),(.int .i64 0)] [(0,1,(.t 3))]),xo 5 (.box true 2 (.t 4)),mv 2 5]) (.ret)) def r_make_Roll:List Y9:=[.tmp 2]
def vN (Γ:Env) (f:Nat):Prop:=∀ (l:List Int),EvR Γ f [.sl 1 (l.map V.int)] (abr l 0)
theorem agk {Γ:Env} {f:Nat} (h:Has Γ.P f 6 aaQ r_make_Roll) :vN Γ f:=by
  intro l
  refine adK h (by simp) (by simp only [abr,V.closed,Qw,and_self]) fun C hC hm=>?_
  subst hC
  unfold aaQ
  repeat' (first|refine Qp fun K' hK=>?_|refine Qt fun K' hK=>?_|refine Qq ?_|refine Qr ?_|refine Qa ?_|((first|refine Qs ⟨_,rfl,fun hc=>?_,fun hc=>?_⟩|refine QM (fun hc=>?_) (fun hc=>?_)|refine QN (fun hc=>?_) (fun hc=>?_))<;>first|(cases hc;done)|((try simp only [znz] at hc);first|exact znf|skip))|refine Qv ?_|refine Qu ?_|simp (maxSteps:=1000000) only [go_sem]|(refine hK _ ?_;clear hK K')|apply And.intro|exact zlo|omega|exact zms)
  refine ak4 _ rfl rfl (by simp only [abr,V.closed,Qw,and_self])
def Kl:List AO:=[mv 5 0,nk 6 5,fa 7 1 6,ld 8 1 7,mv 9 0,nk 10 9,fa 11 0 10,ld 12 1 11,ln 13 12,bn 14 .geq 8 13]
def Kt:List (List Nat):=[[],[0],[1],[2],[],[4],[5],[6],[7],[3,8]]
def Ki:OT:=.one 0 (.one 1 (.one 2 (.one 3 (.one 4 (.one 5 (.one 6 (.one 7 (.one 8 (.one 9 (.done))))))))))
def VG:OP:=.one 0 false [] (mv 5 0) (.one 1 false [] (nk 6 5) (.one 2 false [] (fa 7 1 6) (.one 3 false [] (ld 8 1 7) (.one 4 false [] (mv 9 0) (.one 5 false [] (nk 10 9) (.one 6 false [] (fa 11 0 10) (.one 7 false [] (ld 12 1 11) (.one 8 false [] (ln 13 12) (.one 9 false [] (bn 14 .geq 8 13) (.done))))))))))
theorem VM:okR (Kl) Kt [] Ki = true:=by kernel_rfl
theorem VE:Vo (ris (Kl) Kt []) Ki = VG:=by kernel_rfl
def Kk (X6:Nat):List AO:=[mv 22 0,nk 23 22,fa 24 0 23,ld 25 1 24,mv 26 0,nk 27 26,fa 28 1 27,ld 29 1 28,bc 30 .sub 29 (V.int 1),ia 31 1 25 30,ld 32 1 31,mv 33 1,cl 34 X6 [32,33],mv 4 34]
def Ks:List (List Nat):=[[],[0],[1],[2],[],[4],[5],[6],[7],[3,8],[9],[],[10,11],[12,12,0,1,2,3,4,5,6,7,8,9,10,11,12]]
def Kh:OT:=.one 0 (.one 1 (.one 2 (.one 3 (.one 4 (.one 5 (.one 6 (.one 7 (.one 8 (.one 9 (.one 10 (.one 11 (.one 12 (.one 13 (.done))))))))))))))
def VF (X6:Nat):OP:=.one 0 false [] (mv 22 0) (.one 1 false [] (nk 23 22) (.one 2 false [] (fa 24 0 23) (.one 3 false [] (ld 25 1 24) (.one 4 false [] (mv 26 0) (.one 5 false [] (nk 27 26) (.one 6 false [] (fa 28 1 27) (.one 7 false [] (ld 29 1 28) (.one 8 false [] (bc 30 .sub 29 (V.int 1)) (.one 9 false [] (ia 31 1 25 30) (.one 10 false [] (ld 32 1 31) (.one 11 false [] (mv 33 1) (.one 12 false [] (cl 34 X6 [32,33]) (.one 13 false [12] (mv 4 34) (.done))))))))))))))
theorem VL (X6:Nat):okR (Kk X6) Ks [] Kh = true:=by kernel_rfl
theorem VD (X6:Nat):Vo (ris (Kk X6) Ks []) Kh = VF X6:=by kernel_rfl def c_make_Dice__Next (X6:Nat):AC:=QF [0,1] (.reg [mc 4 (V.int 0)]) (QF [0,1] (QF [0,1,14] (aaY [] Ki (VG) (Kl) Kt) (.cond (.t 14) (QF [4] (.reg [mc 4 (V.int 0)]) (.ret)) (.skip))) (QF [0,1] (.reg [mv 15 0,nk 16 15,fa 17 1 16,ld 18 1 17,bc 19 .add 18 (V.int 1),nk 20 15,fa 21 1 20,xs 1 21 19]) (QF [4] (aaY [] Kh (VF X6) (Kk X6) Ks) (.ret)))) def r_make_Dice__Next:List Y9:=[.tmp 4]
def qg (Γ:Env) (f:Nat):Prop:=∀ (l:List Int) (k:Nat) (n:Int) (hl:l.length≤400) (hk:k≤l.length),EvD Γ f [V.int n] (abr l k) (V.int (vl l k n).1) (abr l (vl l k n).2)
theorem abj {Γ:Env} {f X6:Nat} (h:Has Γ.P f 35 (c_make_Dice__Next X6) r_make_Dice__Next) (aeO:aaR Γ X6):qg Γ f:=by
  intro l k n hl hk
  refine wm h (by simp) (by simp only [V.closed,Qw,V.noSl,JL,and_self,and_true,true_and]) (by first|exact J7 _ _|simp only [V.closed,Qw,and_self,and_true,true_and]) (by first|exact J7 _ _|simp only [V.closed,Qw,and_self,and_true,true_and]) fun C hC hm=>?_
  subst hC
  unfold c_make_Dice__Next
  by_cases h1:k < l.length
  · have e1:decide ((k:Int)≥(((l.map V.int).length:Nat):Int)) = false:=by simp;omega
    have hget:l[k]? = some (l.getD k 0):=by simp [List.getD_eq_getElem?_getD,List.getElem?_eq_getElem h1]
    have hw:=JO (k:=k) (by omega)
    have hw2:IntKind.i64.wrap (((k + 1:Nat):Int) - 1) = (k:Int):=by rw [Yq (by omega) (by omega)];omega
    have hn:vl l k n = (akZ (l.getD k 0) n,k + 1):=by rw [vl,if_pos h1]
    rw [hn]
    repeat' (first|refine Qp fun K' hK=>?_|refine Qt fun K' hK=>?_|refine Qm 10 (fun _=>true) rfl (VM) (VE) fun K' hK=>?_|refine Qn 10 (fun _=>true) rfl (VM) (VE) fun K' hK=>?_|refine Qm 14 (fun _=>true) rfl (VL _) (VD _) fun K' hK=>?_|refine Qn 14 (fun _=>true) rfl (VL _) (VD _) fun K' hK=>?_|refine Qq ?_|refine Qr ?_|refine Qa ?_|((first|refine Qs ⟨_,rfl,fun hc=>?_,fun hc=>?_⟩|refine QM (fun hc=>?_) (fun hc=>?_)|refine QN (fun hc=>?_) (fun hc=>?_))<;>first|(cases hc;done)|((try simp only [znz] at hc);first|exact znf|skip))|refine Qv ?_|refine Qu ?_|simp (maxSteps:=1000000) only [go_sem,abr,e1,hw,hw2,Int.toNat_natCast,List.getElem?_map,hget,VG,VF]|(refine hK _ ?_;clear hK K')|apply And.intro|((first|apply QX|apply Jz);(focus first|exact (aeO _ _).b))|exact zlo|omega|exact zms)
    all_goals (refine qo _ rfl rfl (by simp only [V.closed,Qw,and_self,and_true,true_and]) ?_;simp only [go_sem])
  · have e1:decide ((k:Int)≥(((l.map V.int).length:Nat):Int)) = true:=by simp;omega
    have hn:vl l k n = (0,k):=by rw [vl,if_neg h1]
    rw [hn]
    repeat' (first|refine Qp fun K' hK=>?_|refine Qt fun K' hK=>?_|refine Qm 10 (fun _=>true) rfl (VM) (VE) fun K' hK=>?_|refine Qn 10 (fun _=>true) rfl (VM) (VE) fun K' hK=>?_|refine Qm 14 (fun _=>true) rfl (VL _) (VD _) fun K' hK=>?_|refine Qn 14 (fun _=>true) rfl (VL _) (VD _) fun K' hK=>?_|refine Qq ?_|refine Qr ?_|refine Qa ?_|((first|refine Qs ⟨_,rfl,fun hc=>?_,fun hc=>?_⟩|refine QM (fun hc=>?_) (fun hc=>?_)|refine QN (fun hc=>?_) (fun hc=>?_))<;>first|(cases hc;done)|((try simp only [znz] at hc);first|exact znf|skip))|refine Qv ?_|refine Qu ?_|simp (maxSteps:=1000000) only [go_sem,abr,e1,VG,VF]|(refine hK _ ?_;clear hK K')|apply And.intro|((first|apply QX|apply Jz);(focus first|exact (aeO _ _).b))|exact zlo|omega|exact zms)
    all_goals (refine qo _ rfl rfl (by simp only [V.closed,Qw,and_self,and_true,true_and]) ?_;simp only [go_sem])
end Av
end
section
set_option linter.unusedSimpArgs false
set_option linter.unusedVariables false
set_option maxRecDepth 10000
set_option maxHeartbeats 4000000
namespace Av
open Go
attribute [local irreducible] AWp V7 Kz KE awS awC jS awQ jY JB Wl jJ awR Ws awB okR Vo ris
def jv (UD:Nat):AC:=QF [0,1] (.reg [mc 4 (V.bool false)]) (QF [4] (.reg [mv 5 0,mv 6 1,cl 7 UD [5,6],mv 8 1,bc 9 .sub 8 (V.int 1),bn 10 .eql 7 9,mv 4 10]) (.ret)) def r_make_Dice__One:List Y9:=[.tmp 4]
def qR (Γ:Env) (f:Nat):Prop:=∀ (l:List Int) (k:Nat) (n:Int) (hl:l.length≤400) (hk:k≤l.length) (h1:1≤n) (h2:n < 2 ^ 62),EvD Γ f [V.int n] (abr l k) (V.bool ((vl l k n).1 == n - 1)) (abr l (vl l k n).2)
theorem ab1 {Γ:Env} {f UD:Nat} (h:Has Γ.P f 11 (jv UD) r_make_Dice__One) (xI:qg Γ UD):qR Γ f:=by
  intro l k n hl hk h1 h2
  refine wm h (by simp) (by simp only [V.closed,Qw,V.noSl,JL,and_self,and_true,true_and]) (by first|exact J7 _ _|simp only [V.closed,Qw,and_self,and_true,true_and]) (by first|exact J7 _ _|simp only [V.closed,Qw,and_self,and_true,true_and]) fun C hC hm=>?_
  subst hC
  unfold jv
  have hn:=xI l k n hl hk
  have hw:IntKind.i64.wrap (n - 1) = n - 1:=Yq (by omega) (by omega)
  simp only [abr] at hn
  repeat' (first|refine Qp fun K' hK=>?_|refine Qt fun K' hK=>?_|refine Qq ?_|refine Qr ?_|refine Qa ?_|((first|refine Qs ⟨_,rfl,fun hc=>?_,fun hc=>?_⟩|refine QM (fun hc=>?_) (fun hc=>?_)|refine QN (fun hc=>?_) (fun hc=>?_))<;>first|(cases hc;done)|((try simp only [znz] at hc);first|exact znf|skip))|refine Qv ?_|refine Qu ?_|simp (maxSteps:=1000000) only [go_sem,abr,hw]|(refine hK _ ?_;clear hK K')|apply And.intro|(apply jk;(focus exact rfl);(focus first|exact hn|exact (xI _ _ _ zsd zsd));(focus exact rfl);(focus exact rfl))|exact zlo|omega|exact zms)
  refine qo _ rfl rfl (by simp only [V.closed,Qw,and_self,and_true,true_and]) ?_;simp only [go_sem]
end Av
end
section
set_option linter.unusedSimpArgs false
set_option linter.unusedVariables false
set_option maxRecDepth 10000
set_option maxHeartbeats 4000000
namespace Av
open Go
attribute [local irreducible] AWp V7 Kz KE awS awC jS awQ jY JB Wl jJ awR Ws awB okR Vo ris
theorem ale (s:List UInt8):(aaS s).2 = (Yh 43 s).all Us:=by
  unfold aaS;split
  · rename_i h;rw [h]
  · rename_i h;simpa using h
structure ahU (s:List UInt8):Prop where
  colon:(58:UInt8) ∉ s
  known:(Yh 43 s).all Us = true
  head:∃ c r,s = c :: r∧c≠45∧c≠33∧c≠43∧c≠64
theorem ahU.sign {s:List UInt8} (h:ahU s):WF s = (0,s):=by
  obtain ⟨c,r,rfl,h1,h2,h3,_⟩:=h.head
  rw [WF,if_neg (by simp [h1,h2,h3])]
theorem ahU.okW {s:List UInt8} (h:ahU s):wordOk s = true:=by rw [Av.wordOk,h.sign,ale,h.known,Bool.or_true]
structure ahT (s:List UInt8) (n:Nat):Prop where
  few:s≠[]→(Yh 58 s).length≤n
  ok:s≠[]→∀ w∈Yh 58 s,wordOk w = true
theorem ahT.app {s t:List UInt8} {n m:Nat} (hs:ahT s n) (ht:ahT t m) (h1:s≠[]) (h2:t≠[]):ahT (s++[58]++t) (n + m):=by
  refine ⟨fun _=>?_,fun _ x hx=>?_⟩
  · have:=hs.few h1;have:=ht.few h2;rw [aew];simp;omega
  · rw [aew] at hx
    rcases List.mem_append.1 hx with hx|hx
    · exact hs.ok h1 x hx
    · exact ht.ok h2 x hx
end Av
end
section
namespace Av
open Go
end Av
end
section
set_option linter.unusedSimpArgs false
set_option linter.unusedVariables false
set_option maxRecDepth 10000
set_option maxHeartbeats 4000000
namespace Av
open Go
attribute [local irreducible] AWp V7 Kz KE awS awC jS awQ jY JB Wl jJ awR Ws awB okR Vo ris
theorem af0 {l:List Int} {j:Nat} {x:Int} (hn:l.Nodup) (hg:l[j]? = some x):x ∉ l.take j:=by
  intro h
  obtain ⟨hj,he⟩:=List.getElem?_eq_some_iff.1 hg
  have h2:l.take j++x :: l.drop (j + 1) = l:=by rw [← he,← List.drop_eq_getElem_cons hj,List.take_append_drop]
  rw [← h2] at hn
  exact (List.nodup_append.1 hn).2.2 x h x (by simp) rfl
end Av
end
section
set_option linter.unusedSimpArgs false
set_option linter.unusedVariables false
set_option maxRecDepth 10000
set_option maxHeartbeats 4000000
namespace Av
open Go
attribute [local irreducible] AWp V7 Kz KE awS awC jS awQ jY JB Wl jJ awR Ws awB okR Vo ris
end Av
end
