/- K25 -/
import Derived.Test.YtalpffbofjlfgaaGreatDoorK24
set_option linter.unusedVariables false
set_option linter.unusedSimpArgs false
section
set_option linter.unusedSimpArgs false
set_option linter.unusedVariables false
set_option maxRecDepth 10000
set_option maxHeartbeats 4000000
namespace Av
open Go
attribute [local irreducible] AWp WY Vp Vq awS awC V1 awQ Uh Q9 YQ VZ awR YT awB okR Ww ris
theorem LeV.hd0 (a off sz:Nat):LeV (.hd a off 0) (.sl sz []):=fun _ _ _ _ h=>by
  cases h with
  | hd h1 hv =>
    unfold Hdr at hv
    split at hv
    · rw [hv.1];exact .sl0
    · obtain ⟨ad,h2,_⟩:=hv
      rw [h2];exact .sl0
theorem an4 {l:List Qu} {ks:List JL} {s:List UInt8} (h:Y8 l≠0):ads l ks s = .tup [.sl 2 [],V.int (Y8 l)]:=by
  have e:WQ l s = (0,Y8 l):=by unfold WQ;rw [if_pos h]
  have e2:abn l ks s = Y8 l:=by unfold abn;rw [e];exact if_pos h
  unfold ads aif;rw [e2,if_neg h];rfl
theorem an3 {l:List Qu} {ks:List JL} {s:List UInt8} (h:Y8 l = 0) (hf:Vn l s < 0):ads l ks s = .tup [.sl 2 [],V.int 4]:=by
  have e:WQ l s = (0,4):=by unfold WQ;rw [if_neg (by simp [h]),if_pos hf]
  have e2:abn l ks s = 4:=by unfold abn;rw [e];exact if_pos (by decide)
  unfold ads aif;rw [e2,if_neg (by decide)];rfl
theorem an2 {l:List Qu} {ks:List JL} {s:List UInt8} (h:Y8 l = 0) (hf:¬ Vn l s < 0):ads l ks s = .tup [.sl 2 ((if ans ks = true then [] else if ant ks = true then [] else ag0 l ks (Vn l s).toNat).map usV),V.int (if ans ks = true then 22 else if ant ks = true then 7 else 0)]:=by
  have e:WQ l s = (Vn l s,0):=by unfold WQ;rw [if_neg (by simp [h]),if_neg hf]
  have e2:abn l ks s = if ans ks = true then 22 else if ant ks = true then 7 else 0:=by unfold abn;rw [e];exact if_neg (by simp)
  unfold ads aif;rw [e2,e]
  rcases ans ks with _|_
  · rcases ant ks with _|_
    · rfl
    · rfl
  · rfl
def ao4 (x:JL):Bool:=!Wt x.lo x.up
def aoZ (l:List Qu) (ks:List JL) (bs:List Bool) (k:Nat):St:=Xy [(0,.sl 3 (l.map Qu.v)),(1,.sl 4 (ks.map JL.v)),(9,.sl 1 (bs.map V.bool)),(11,V.int k)] [] 0
def ao6 (l:List Qu) (ks:List JL) (bs:List Bool) (k:Nat):St:=Xy [(0,.sl 3 (l.map Qu.v)),(1,.sl 4 (ks.map JL.v)),(9,.sl 1 (bs.map V.bool)),(12,.sl 2 []),(13,V.int k)] [] 0
def aoY (l:List Qu) (ks:List JL) (bs:List Bool) (k m:Nat):St:=Xy [(0,.sl 3 (l.map Qu.v)),(1,.sl 4 (ks.map JL.v)),(9,.sl 1 (bs.map V.bool)),(12,.sl 2 []),(13,V.int k),(14,V.int m)] [] 0
def aoX (l:List Qu) (ks:List JL) (bs:List Bool) (L:List PU) (k:Nat):St:=Xy [(0,.sl 3 (l.map Qu.v)),(1,.sl 4 (ks.map JL.v)),(9,.sl 1 (bs.map V.bool)),(12,.sl 2 ((ajb L).map usV)),(15,V.int k)] [] 0
def akU (l:List Qu) (ks:List JL) (bs:List Bool) (L:List PU) (k m:Nat):St:=Xy [(0,.sl 3 (l.map Qu.v)),(1,.sl 4 (ks.map JL.v)),(9,.sl 1 (bs.map V.bool)),(12,.sl 2 ((ajb L).map usV)),(15,V.int k),(16,V.int m)] [] 0
def aoW (l:List Qu) (ks:List JL) (bs:List Bool) (L:List PU) (k m j:Nat):St:=Xy [(0,.sl 3 (l.map Qu.v)),(1,.sl 4 (ks.map JL.v)),(9,.sl 1 (bs.map V.bool)),(12,.sl 2 ((ajb L).map usV)),(15,V.int k),(16,V.int m),(17,V.int j)] [] 0
def xu (J2:Nat):List AO:=[mv 82 9,mv 83 16,ia 84 1 82 83,ld 85 1 84,mv 86 85,mg 87 0 86 true,mg 88 16 86 true,xg 89 (.iaddr 3 (.t 87) (.t 88)) 86 true,xg 90 (.faddr 0 (.t 89)) 86 true,xg 91 (.load false 1 (.t 90)) 86 true,mg 92 1 86 true,mg 93 15 86 true,xg 94 (.iaddr 4 (.t 92) (.t 93)) 86 true,xg 95 (.faddr 0 (.t 94)) 86 true,xg 96 (.load false 1 (.t 95)) 86 true,xg 97 (.bin .eql (.t 91) (.t 96)) 86 true,xo 98 (.pick (.t 86) (.t 97) (.c (V.bool false))),mv 99 98,mg 100 1 99 true,mg 101 15 99 true,xg 102 (.iaddr 4 (.t 100) (.t 101)) 99 true,xg 103 (.faddr 1 (.t 102)) 99 true,xg 104 (.load true 2 (.t 103)) 99 true,mg 105 0 99 true,mg 106 16 99 true,xg 107 (.iaddr 3 (.t 105) (.t 106)) 99 true,xg 108 (.faddr 1 (.t 107)) 99 true,xg 109 (.load false 1 (.t 108)) 99 true,xg 110 (.call J2 [(.t 104),(.t 109)]) 99 true,xo 111 (.pick (.t 99) (.t 110) (.c (V.bool false)))]
def xJ:List (List Nat):=[[],[],[0,1],[2],[3],[4],[4],[5,6,4],[7,4],[8,4],[4],[4],[10,11,4],[12,4],[13,4],[9,14,4],[4,15],[16,4],[17],[17],[18,19,17],[20,17],[21,17],[17],[17],[23,24,17],[25,17],[26,17],[22,27,17,17],[17,28]]
def xn:OT:=.one 0 (.one 1 (.one 2 (.one 3 (.one 4 (.one 5 (.one 6 (.one 7 (.one 8 (.one 9 (.one 10 (.one 11 (.one 12 (.one 13 (.one 14 (.one 15 (.one 16 (.one 17 (.one 18 (.one 19 (.one 20 (.one 21 (.one 22 (.one 23 (.one 24 (.one 25 (.one 26 (.one 27 (.one 28 (.one 29 (.done))))))))))))))))))))))))))))))
def JF (J2:Nat):OP:=.one 0 false [] (mv 82 9) (.one 1 false [] (mv 83 16) (.one 2 false [] (ia 84 1 82 83) (.one 3 false [] (ld 85 1 84) (.one 4 false [] (mv 86 85) (.one 5 false [] (mg 87 0 86 true) (.one 6 false [] (mg 88 16 86 true) (.one 7 false [] (xg 89 (.iaddr 3 (.t 87) (.t 88)) 86 true) (.one 8 false [] (xg 90 (.faddr 0 (.t 89)) 86 true) (.one 9 false [] (xg 91 (.load false 1 (.t 90)) 86 true) (.one 10 false [] (mg 92 1 86 true) (.one 11 false [] (mg 93 15 86 true) (.one 12 false [] (xg 94 (.iaddr 4 (.t 92) (.t 93)) 86 true) (.one 13 false [] (xg 95 (.faddr 0 (.t 94)) 86 true) (.one 14 false [] (xg 96 (.load false 1 (.t 95)) 86 true) (.one 15 false [] (xg 97 (.bin .eql (.t 91) (.t 96)) 86 true) (.one 16 false [] (xo 98 (.pick (.t 86) (.t 97) (.c (V.bool false)))) (.one 17 false [] (mv 99 98) (.one 18 false [] (mg 100 1 99 true) (.one 19 false [] (mg 101 15 99 true) (.one 20 false [] (xg 102 (.iaddr 4 (.t 100) (.t 101)) 99 true) (.one 21 false [] (xg 103 (.faddr 1 (.t 102)) 99 true) (.one 22 false [] (xg 104 (.load true 2 (.t 103)) 99 true) (.one 23 false [] (mg 105 0 99 true) (.one 24 false [] (mg 106 16 99 true) (.one 25 false [] (xg 107 (.iaddr 3 (.t 105) (.t 106)) 99 true) (.one 26 false [] (xg 108 (.faddr 1 (.t 107)) 99 true) (.one 27 false [] (xg 109 (.load false 1 (.t 108)) 99 true) (.one 28 false [] (xg 110 (.call J2 [(.t 104),(.t 109)]) 99 true) (.one 29 false [28] (xo 111 (.pick (.t 99) (.t 110) (.c (V.bool false)))) (.done))))))))))))))))))))))))))))))
theorem QX (J2:Nat):okR (xu J2) xJ [] xn = true:=by kernel_rfl
theorem QW (J2:Nat):Ww (ris (xu J2) xJ []) xn = JF J2:=by kernel_rfl def c_ref12_Uses (Ya W8 WK yi J2 wv:Nat):AC:=Qo [0,1,2] (.reg [xo 6 (.mknil 2),mc 7 (V.int 0)]) (Qo [0,1,2] (Qo [0,1,2,8] (.reg [mv 18 0,cl 19 Ya [18],mv 8 19]) (Qo [0,1,2,8,21] (.reg [mv 20 8,bc 21 .neq 20 (V.int 0)]) (.cond (.t 21) (Qo [6,7] (.reg [mv 22 8,xo 6 (.mknil 2),mv 7 22]) (.ret)) (.skip)))) (Qo [0,1,9,10] (.reg [mv 24 0,mv 25 2,cl 26 W8 [24,25],mv 23 26,ex 27 23 0,ex 28 23 1,mv 9 27,mv 10 28]) (Qo [0,1,9] (Qo [0,1,9,30] (.reg [mv 29 10,xo 30 (.un .not (.t 29))]) (.cond (.t 30) (Qo [6,7] (.reg [xo 6 (.mknil 2),mc 7 (V.int 4)]) (.ret)) (.skip))) (Qo [0,1,9] (Qo [0,1,9,11] (.reg [mc 11 (V.int 0)]) (.block 0 (X1 [0,1,9,11] (Qo [0,1,9,11] (Qo [0,1,9,11,34] (.reg [mv 31 11,mv 32 1,ln 33 32,bn 34 .lss 31 33]) (.cond (.t 34) (.skip) (.exit 0))) (Qo [0,1,9,11] (.block 1 (Qo [0,1,9,11,43] (.reg [mv 37 1,mv 38 11,ia 39 4 37 38,fa 40 1 39,xo 41 (.load true 2 (.t 40)),cl 42 WK [41],xo 43 (.un .not (.t 42))]) (.cond (.t 43) (Qo [6,7] (.reg [xo 6 (.mknil 2),mc 7 (V.int 22)]) (.ret)) (.skip)))) (.reg [mv 35 11,bc 36 .add 35 (V.int 1),mv 11 36])))))) (Qo [0,1,9,12] (.reg [xo 12 (.mknil 2)]) (Qo [0,1,9,12] (Qo [0,1,9,12,13] (.reg [mc 13 (V.int 0)]) (.block 2 (X1 [0,1,9,12,13] (Qo [0,1,9,12,13] (Qo [0,1,9,12,13,47] (.reg [mv 44 13,mv 45 1,ln 46 45,bn 47 .lss 44 46]) (.cond (.t 47) (.skip) (.exit 2))) (Qo [0,1,9,12,13] (.block 3 (Qo [0,1,9,12,13,14] (.reg [mc 14 (V.int 0)]) (.block 4 (X1 [0,1,9,12,13,14] (Qo [0,1,9,12,13,14] (Qo [0,1,9,12,13,14,57] (.reg [mv 50 14,mv 51 1,mv 52 13,ia 53 4 51 52,fa 54 3 53,ld 55 1 54,ln 56 55,bn 57 .lss 50 56]) (.cond (.t 57) (.skip) (.exit 4))) (Qo [0,1,9,12,13,14] (.block 5 (Qo [0,1,9,12,13,14,69] (.reg [mv 60 1,mv 61 13,ia 62 4 60 61,fa 63 3 62,ld 64 1 63,mv 65 14,ia 66 2 64 65,xo 67 (.load true 2 (.t 66)),cl 68 yi [67],xo 69 (.un .not (.t 68))]) (.cond (.t 69) (Qo [6,7] (.reg [xo 6 (.mknil 2),mc 7 (V.int 7)]) (.ret)) (.skip)))) (.reg [mv 58 14,bc 59 .add 58 (V.int 1),mv 14 59]))))))) (.reg [mv 48 13,bc 49 .add 48 (V.int 1),mv 13 49])))))) (Qo [12] (Qo [0,1,9,12,15] (.reg [mc 15 (V.int 0)]) (.block 6 (X1 [0,1,9,12,15] (Qo [0,1,9,12,15] (Qo [0,1,9,12,15,73] (.reg [mv 70 15,mv 71 1,ln 72 71,bn 73 .lss 70 72]) (.cond (.t 73) (.skip) (.exit 6))) (Qo [0,1,9,12,15] (.block 7 (Qo [0,1,9,12,15,16] (.reg [mc 16 (V.int 0)]) (.block 8 (X1 [0,1,9,12,15,16] (Qo [0,1,9,12,15,16] (Qo [0,1,9,12,15,16,79] (.reg [mv 76 16,mv 77 0,ln 78 77,bn 79 .lss 76 78]) (.cond (.t 79) (.skip) (.exit 8))) (Qo [0,1,9,12,15,16] (.block 9 (Qo [0,1,9,12,15,16,111] (ach [] xn (JF J2) (xu J2) xJ) (.cond (.t 111) (Qo [0,1,9,12,15,16,17] (.reg [mc 17 (V.int 0)]) (.block 10 (X1 [0,1,9,12,15,16,17] (Qo [0,1,9,12,15,16,17] (Qo [0,1,9,12,15,16,17,119] (.reg [mv 112 17,mv 113 1,mv 114 15,ia 115 4 113 114,fa 116 3 115,ld 117 1 116,ln 118 117,bn 119 .lss 112 118]) (.cond (.t 119) (.skip) (.exit 10))) (Qo [0,1,9,12,15,16,17] (.block 11 (.reg [mv 122 12,mv 123 1,mv 124 15,ia 125 4 123 124,fa 126 3 125,ld 127 1 126,mv 128 17,ia 129 2 127 128,xo 130 (.load true 2 (.t 129)),cl 131 wv [122,130],mv 12 131])) (.reg [mv 120 17,bc 121 .add 120 (V.int 1),mv 17 121])))))) (.skip)))) (.reg [mv 80 16,bc 81 .add 80 (V.int 1),mv 16 81]))))))) (.reg [mv 74 15,bc 75 .add 74 (V.int 1),mv 15 75])))))) (Qo [6,7] (.reg [mv 132 12,mv 6 132,mc 7 (V.int 0)]) (.ret))))))))) def r_ref12_Uses:List X0:=[.tmp 6,.tmp 7]
def wT (Γ:Env) (f:Nat):Prop:=∀ (l:List Qu) (ks:List JL) (s:List UInt8) (hl:PSz l) (hk:KSz ks) (hn:∀ a,(aoD l ks a).length≤1000),EvC Γ f [.sl 3 (l.map Qu.v),.sl 4 (ks.map JL.v),V.str s] (ads l ks s)
theorem agJ {Γ:Env} {f Ya W8 WK yi J2 wv:Nat} (h:Has Γ.P f 133 (c_ref12_Uses Ya W8 WK yi J2 wv) r_ref12_Uses) (QV:Uy Γ Ya) (Js:jF Γ W8) (QT:qH Γ WK) (JZ:xP Γ yi) (J8:wU Γ J2) (Yv:vV Γ wv):wT Γ f:=by
  intro l ks s hl hk hn
  refine W1 h (by simp) (adi _ _ _) fun C hC hm=>?_
  subst hC
  unfold c_ref12_Uses
  have gc:=(QV l hl).b
  have hpl:(l.map Qu.v).length = l.length:=List.length_map _
  have hkl:(ks.map JL.v).length = ks.length:=List.length_map _
  have hks:=hk.1
  have hgk:∀ (k:Nat) (x:JL),ks[k]? = some x→(ks.map JL.v)[k]? = some (V.agg [V.str x.name,.sl 1 (x.lo.map V.int),.sl 1 (x.up.map V.int),.sl 2 (x.uses.map usV)]):=fun k x h=>by rw [List.getElem?_map,h];rfl
  by_cases hc0:Y8 l = 0
  case neg =>
    have e2:(Y8 l != 0) = true:=by simpa using hc0
    rw [an4 hc0]
    repeat' (first|refine Qb fun K' hK=>?_|refine Qe fun K' hK=>?_|refine Ql 30 (fun _=>true) rfl (QX _) (QW _) fun K' hK=>?_|refine Qm 30 (fun _=>true) rfl (QX _) (QW _) fun K' hK=>?_|refine Qc ?_|refine Qd ?_|refine Qa ?_|((first|refine Qg ⟨_,rfl,fun hc=>?_,fun hc=>?_⟩|refine Qs (fun hc=>?_) (fun hc=>?_)|refine Qt (fun hc=>?_) (fun hc=>?_))<;>first|(cases hc;done)|((try simp only [znz] at hc);first|exact znf|skip))|refine Qi ?_|refine Qf ?_|simp (maxSteps:=1000000) only [go_sem,e2,JF]|(refine hK _ ?_;clear hK K')|apply And.intro|((first|apply Qv|apply Jm);(focus first|exact gc|exact (QV _ zsd).b|exact (Js _ _ zsd zsd zsd).b|exact (QT _ _ zsd zsd).b|exact (JZ _ _).b|exact (J8 _ _ _ zsd zsd zsd).b|exact (Yv _ _ zsd).b))|exact zlo|omega|exact zms)
    all_goals first|(refine QM _ rfl ?_;simp only [go_sem];first|done|rfl|exact ⟨_,_,rfl⟩)
  have hu:=xk hc0
  have h64:=ajH hc0
  have gr:=(Js l s hl hu h64).b
  have hfa:decide (Vn l s≥0) = l.any (nmB s):=yg (nmB s) l 0
  rw [hc0] at gc
  unfold aj4 apb at gr
  by_cases hf:Vn l s < 0
  · rw [an3 hc0 hf]
    rw [decide_eq_false (by omega)] at hfa
    rw [← hfa] at gr
    repeat' (first|refine Qb fun K' hK=>?_|refine Qe fun K' hK=>?_|refine Ql 30 (fun _=>true) rfl (QX _) (QW _) fun K' hK=>?_|refine Qm 30 (fun _=>true) rfl (QX _) (QW _) fun K' hK=>?_|refine Qc ?_|refine Qd ?_|refine Qa ?_|((first|refine Qg ⟨_,rfl,fun hc=>?_,fun hc=>?_⟩|refine Qs (fun hc=>?_) (fun hc=>?_)|refine Qt (fun hc=>?_) (fun hc=>?_))<;>first|(cases hc;done)|((try simp only [znz] at hc);first|exact znf|skip))|refine Qi ?_|refine Qf ?_|simp (maxSteps:=1000000) only [go_sem,JF]|(refine hK _ ?_;clear hK K')|apply And.intro|((first|apply Qv|apply Jm);(focus first|exact gc|exact gr|exact (QV _ zsd).b|exact (Js _ _ zsd zsd zsd).b|exact (QT _ _ zsd zsd).b|exact (JZ _ _).b|exact (J8 _ _ _ zsd zsd zsd).b|exact (Yv _ _ zsd).b))|exact zlo|omega|exact zms)
    all_goals first|(refine QM _ rfl ?_;simp only [go_sem];first|done|rfl|exact ⟨_,_,rfl⟩)
  rw [an2 hc0 hf]
  rw [decide_eq_true (by omega)] at hfa
  rw [← hfa,if_neg hf] at gr
  generalize (Vn l s).toNat = a at *
  have hn:=hn a
  have hget:=@afM l a
  generalize aen l a = bs at *
  repeat' (first|refine Qb fun K' hK=>?_|refine Qe fun K' hK=>?_|refine Ql 30 (fun _=>true) rfl (QX _) (QW _) fun K' hK=>?_|refine Qm 30 (fun _=>true) rfl (QX _) (QW _) fun K' hK=>?_|refine Qc ?_|refine Qd ?_|refine Qa ?_|((first|refine Qg ⟨_,rfl,fun hc=>?_,fun hc=>?_⟩|refine Qs (fun hc=>?_) (fun hc=>?_)|refine Qt (fun hc=>?_) (fun hc=>?_))<;>first|(cases hc;done)|((try simp only [znz] at hc);first|exact znf|skip))|refine Qi ?_|refine Qf ?_|simp (maxSteps:=1000000) only [go_sem,JF]|(refine hK _ ?_;clear hK K')|apply And.intro|((first|apply Qv|apply Jm);(focus first|exact gc|exact gr|exact (QV _ zsd).b|exact (Js _ _ zsd zsd zsd).b|exact (QT _ _ zsd zsd).b|exact (JZ _ _).b|exact (J8 _ _ _ zsd zsd zsd).b|exact (Yv _ _ zsd).b))|exact zlo|omega|exact zms)
  refine JR (ι:=Nat) (fun k=>k≤ks.length∧(ks.drop k).any ao4 = ans ks) (fun k=>aoZ l ks bs k) (fun k=>ks.length - k) 0 ⟨by omega,by simp;rfl⟩ (QO []) (JE [] (by simp only [go_sem,and_true,true_and,implies_true,Option.some.injEq,exists_eq_left',Qh,Qj,aoZ];(repeat' (first|rfl|apply And.intro|omega|exact fun h=>h|exact Exists.intro _ rfl))) (by simp) (by simp [QO]) (by simp) (by omega)) fun k hkk K1 hL1=>?_
  obtain ⟨hkk,hinv⟩:=hkk
  rcases hd:ks.drop k with _|⟨x,r⟩
  case cons =>
    obtain ⟨hk',hgx,hr⟩:=Yy hd
    have hst:=yO (p:=ao4) hd
    rw [hinv] at hst
    have hxz:=hk.2 x (List.mem_of_getElem? hgx)
    have hw:=Jq (k:=k) (by omega)
    have c1:decide ((k:Int) < (ks.length:Int)) = true:=decide_eq_true (by omega)
    have vx:=hgk k x hgx
    have gR:=(QT x.lo x.up hxz.1 hxz.2.1).b
    simp only [ye] at gR
    rcases hb:Wt x.lo x.up with _|_
    · have hbx:ao4 x = true:=by unfold ao4;rw [hb];rfl
      rw [hbx,Bool.true_or] at hst
      rw [hb] at gR
      rw [hst]
      repeat' (first|refine Qb fun K' hK=>?_|refine Qe fun K' hK=>?_|refine Ql 30 (fun _=>true) rfl (QX _) (QW _) fun K' hK=>?_|refine Qm 30 (fun _=>true) rfl (QX _) (QW _) fun K' hK=>?_|refine Qc ?_|refine Qd ?_|refine Qa ?_|((first|refine Qg ⟨_,rfl,fun hc=>?_,fun hc=>?_⟩|refine Qs (fun hc=>?_) (fun hc=>?_)|refine Qt (fun hc=>?_) (fun hc=>?_))<;>first|(cases hc;done)|((try simp only [znz] at hc);first|exact znf|skip))|refine Qi ?_|refine Qf ?_|simp (maxSteps:=1000000) only [go_sem,aoZ,Xy,hkl,c1,hw,Int.toNat_natCast,vx,JF]|(refine hK _ ?_;clear hK K')|apply And.intro|((first|apply Qv|apply Jm);(focus first|exact gR|exact (QV _ zsd).b|exact (Js _ _ zsd zsd zsd).b|exact (QT _ _ zsd zsd).b|exact (JZ _ _).b|exact (J8 _ _ _ zsd zsd zsd).b|exact (Yv _ _ zsd).b))|exact zlo|omega|exact zms)
      all_goals first|(refine QM _ rfl ?_;simp only [go_sem];first|done|rfl|exact ⟨_,_,rfl⟩)
    · have hbx:ao4 x = false:=by unfold ao4;rw [hb];rfl
      rw [hbx,Bool.false_or] at hst
      rw [hb] at gR
      repeat' (first|refine Qb fun K' hK=>?_|refine Qe fun K' hK=>?_|refine Ql 30 (fun _=>true) rfl (QX _) (QW _) fun K' hK=>?_|refine Qm 30 (fun _=>true) rfl (QX _) (QW _) fun K' hK=>?_|refine Qc ?_|refine Qd ?_|refine Qa ?_|((first|refine Qg ⟨_,rfl,fun hc=>?_,fun hc=>?_⟩|refine Qs (fun hc=>?_) (fun hc=>?_)|refine Qt (fun hc=>?_) (fun hc=>?_))<;>first|(cases hc;done)|((try simp only [znz] at hc);first|exact znf|skip))|refine Qi ?_|refine Qf ?_|simp (maxSteps:=1000000) only [go_sem,aoZ,Xy,hkl,c1,hw,Int.toNat_natCast,vx,JF]|(refine hK _ ?_;clear hK K')|apply And.intro|((first|apply Qv|apply Jm);(focus first|exact gR|exact (QV _ zsd).b|exact (Js _ _ zsd zsd zsd).b|exact (QT _ _ zsd zsd).b|exact (JZ _ _).b|exact (J8 _ _ _ zsd zsd zsd).b|exact (Yv _ _ zsd).b))|exact zlo|omega|exact zms)
      all_goals first
        | exact hL1 _ (k + 1) (QO []) ⟨by omega,hst.symm⟩ (by omega) (JE [] (by simp only [go_sem,and_true,true_and,implies_true,Option.some.injEq,exists_eq_left',Qh,Qj,aoZ];(repeat' (first|rfl|apply And.intro|omega|exact fun h=>h|exact Exists.intro _ rfl))) (by simp) (by simp [QO]) (by simp) (by omega))
  have c1:decide ((k:Int) < (ks.length:Int)) = false:=decide_eq_false (by have:=Xx hd;omega)
  rw [hd] at hinv
  rw [← hinv]
  simp only [List.any_nil,Bool.false_eq_true,if_false]
  repeat' (first|refine Qb fun K' hK=>?_|refine Qe fun K' hK=>?_|refine Ql 30 (fun _=>true) rfl (QX _) (QW _) fun K' hK=>?_|refine Qm 30 (fun _=>true) rfl (QX _) (QW _) fun K' hK=>?_|refine Qc ?_|refine Qd ?_|refine Qa ?_|((first|refine Qg ⟨_,rfl,fun hc=>?_,fun hc=>?_⟩|refine Qs (fun hc=>?_) (fun hc=>?_)|refine Qt (fun hc=>?_) (fun hc=>?_))<;>first|(cases hc;done)|((try simp only [znz] at hc);first|exact znf|skip))|refine Qi ?_|refine Qf ?_|simp (maxSteps:=1000000) only [go_sem,aoZ,Xy,hkl,c1,JF]|(refine hK _ ?_;clear hK K')|apply And.intro|((first|apply Qv|apply Jm);(focus first|exact (QV _ zsd).b|exact (Js _ _ zsd zsd zsd).b|exact (QT _ _ zsd zsd).b|exact (JZ _ _).b|exact (J8 _ _ _ zsd zsd zsd).b|exact (Yv _ _ zsd).b))|exact zlo|omega|exact zms)
  clear hd hinv hL1 K1 c1 hkk
  refine aoS 12 (.sl 2 []) (by exact LeV.hd0 _ _ _) ?_
  refine JR (ι:=Nat) (fun k=>k≤ks.length∧(ks.drop k).any (fun x=>x.uses.any akO) = ant ks) (fun k=>ao6 l ks bs k) (fun k=>ks.length - k) 0 ⟨by omega,by simp;rfl⟩ (QO []) (JE [] (by simp only [go_sem,and_true,true_and,implies_true,Option.some.injEq,exists_eq_left',Qh,Qj,ao6];(repeat' (first|rfl|apply And.intro|omega|exact fun h=>h|exact Exists.intro _ rfl))) (by simp) (by simp [QO]) (by simp) (by omega)) fun k hkk K1 hL1=>?_
  obtain ⟨hkk,hinv⟩:=hkk
  rcases hd:ks.drop k with _|⟨x,r⟩
  case cons =>
    obtain ⟨hk',hgx,hr⟩:=Yy hd
    have hst:=yO (p:=fun x:JL=>x.uses.any akO) hd
    rw [hinv] at hst
    have hxz:=hk.2 x (List.mem_of_getElem? hgx)
    have hw:=Jq (k:=k) (by omega)
    have c1:decide ((k:Int) < (ks.length:Int)) = true:=decide_eq_true (by omega)
    have vx:=hgk k x hgx
    have hul:(x.uses.map usV).length = x.uses.length:=List.length_map _
    repeat' (first|refine Qb fun K' hK=>?_|refine Qe fun K' hK=>?_|refine Ql 30 (fun _=>true) rfl (QX _) (QW _) fun K' hK=>?_|refine Qm 30 (fun _=>true) rfl (QX _) (QW _) fun K' hK=>?_|refine Qc ?_|refine Qd ?_|refine Qa ?_|((first|refine Qg ⟨_,rfl,fun hc=>?_,fun hc=>?_⟩|refine Qs (fun hc=>?_) (fun hc=>?_)|refine Qt (fun hc=>?_) (fun hc=>?_))<;>first|(cases hc;done)|((try simp only [znz] at hc);first|exact znf|skip))|refine Qi ?_|refine Qf ?_|simp (maxSteps:=1000000) only [go_sem,ao6,Xy,hkl,c1,JF]|(refine hK _ ?_;clear hK K')|apply And.intro|((first|apply Qv|apply Jm);(focus first|exact (QV _ zsd).b|exact (Js _ _ zsd zsd zsd).b|exact (QT _ _ zsd zsd).b|exact (JZ _ _).b|exact (J8 _ _ _ zsd zsd zsd).b|exact (Yv _ _ zsd).b))|exact zlo|omega|exact zms)
    refine JR (ι:=Nat) (fun m=>m≤x.uses.length∧(x.uses.drop m).any akO = x.uses.any akO) (fun m=>aoY l ks bs k m) (fun m=>x.uses.length - m) 0 ⟨by omega,by simp⟩ (QO []) (JE [] (by simp only [go_sem,and_true,true_and,implies_true,Option.some.injEq,exists_eq_left',Qh,Qj,aoY];(repeat' (first|rfl|apply And.intro|omega|exact fun h=>h|exact Exists.intro _ rfl))) (by simp) (by simp [QO]) (by simp) (by omega)) fun m hm K2 hL2=>?_
    obtain ⟨hm,hinm⟩:=hm
    rcases hdm:x.uses.drop m with _|⟨u,r2⟩
    · rw [hdm] at hinm
      have c2:decide ((m:Int) < (x.uses.length:Int)) = false:=decide_eq_false (by have:=Xx hdm;omega)
      rw [← hinm,List.any_nil,Bool.false_or] at hst
      repeat' (first|refine Qb fun K' hK=>?_|refine Qe fun K' hK=>?_|refine Ql 30 (fun _=>true) rfl (QX _) (QW _) fun K' hK=>?_|refine Qm 30 (fun _=>true) rfl (QX _) (QW _) fun K' hK=>?_|refine Qc ?_|refine Qd ?_|refine Qa ?_|((first|refine Qg ⟨_,rfl,fun hc=>?_,fun hc=>?_⟩|refine Qs (fun hc=>?_) (fun hc=>?_)|refine Qt (fun hc=>?_) (fun hc=>?_))<;>first|(cases hc;done)|((try simp only [znz] at hc);first|exact znf|skip))|refine Qi ?_|refine Qf ?_|simp (maxSteps:=1000000) only [go_sem,aoY,Xy,hkl,hul,c2,hw,Int.toNat_natCast,vx,JF]|(refine hK _ ?_;clear hK K')|apply And.intro|((first|apply Qv|apply Jm);(focus first|exact (QV _ zsd).b|exact (Js _ _ zsd zsd zsd).b|exact (QT _ _ zsd zsd).b|exact (JZ _ _).b|exact (J8 _ _ _ zsd zsd zsd).b|exact (Yv _ _ zsd).b))|exact zlo|omega|exact zms)
      all_goals first
        | exact hL1 _ (k + 1) (QO []) ⟨by omega,hst.symm⟩ (by omega) (JE [] (by simp only [go_sem,and_true,true_and,implies_true,Option.some.injEq,exists_eq_left',Qh,Qj,ao6];(repeat' (first|rfl|apply And.intro|omega|exact fun h=>h|exact Exists.intro _ rfl))) (by simp) (by simp [QO]) (by simp) (by omega))
    · obtain ⟨hm',hgu,hru⟩:=Yy hdm
      have hsm:=yO (p:=akO) hdm
      rw [hinm] at hsm
      have hw2:=Jq (k:=m) (by have:=hxz.2.2.1;omega)
      have c2:decide ((m:Int) < (x.uses.length:Int)) = true:=decide_eq_true (by omega)
      have vu:(x.uses.map usV)[m]? = some (V.agg [V.int u.1,V.int u.2]):=by rw [List.getElem?_map,hgu];rfl
      have gV:=(JZ u.1 u.2).b
      rcases hb:decide (Vf u.1 u.2 > 0) with _|_
      · have hbu:akO u = true:=by unfold akO;rw [hb];rfl
        rw [hbu,Bool.true_or] at hsm
        rw [hsm,Bool.true_or] at hst
        rw [hb] at gV
        rw [hst]
        repeat' (first|refine Qb fun K' hK=>?_|refine Qe fun K' hK=>?_|refine Ql 30 (fun _=>true) rfl (QX _) (QW _) fun K' hK=>?_|refine Qm 30 (fun _=>true) rfl (QX _) (QW _) fun K' hK=>?_|refine Qc ?_|refine Qd ?_|refine Qa ?_|((first|refine Qg ⟨_,rfl,fun hc=>?_,fun hc=>?_⟩|refine Qs (fun hc=>?_) (fun hc=>?_)|refine Qt (fun hc=>?_) (fun hc=>?_))<;>first|(cases hc;done)|((try simp only [znz] at hc);first|exact znf|skip))|refine Qi ?_|refine Qf ?_|simp (maxSteps:=1000000) only [go_sem,aoY,Xy,hkl,hul,c2,hw2,Int.toNat_natCast,vx,vu,JF]|(refine hK _ ?_;clear hK K')|apply And.intro|((first|apply Qv|apply Jm);(focus first|exact gV|exact (QV _ zsd).b|exact (Js _ _ zsd zsd zsd).b|exact (QT _ _ zsd zsd).b|exact (JZ _ _).b|exact (J8 _ _ _ zsd zsd zsd).b|exact (Yv _ _ zsd).b))|exact zlo|omega|exact zms)
        all_goals first|(refine QM _ rfl ?_;simp only [go_sem];first|done|rfl|exact ⟨_,_,rfl⟩)
      · have hbu:akO u = false:=by unfold akO;rw [hb];rfl
        rw [hbu,Bool.false_or] at hsm
        rw [hb] at gV
        repeat' (first|refine Qb fun K' hK=>?_|refine Qe fun K' hK=>?_|refine Ql 30 (fun _=>true) rfl (QX _) (QW _) fun K' hK=>?_|refine Qm 30 (fun _=>true) rfl (QX _) (QW _) fun K' hK=>?_|refine Qc ?_|refine Qd ?_|refine Qa ?_|((first|refine Qg ⟨_,rfl,fun hc=>?_,fun hc=>?_⟩|refine Qs (fun hc=>?_) (fun hc=>?_)|refine Qt (fun hc=>?_) (fun hc=>?_))<;>first|(cases hc;done)|((try simp only [znz] at hc);first|exact znf|skip))|refine Qi ?_|refine Qf ?_|simp (maxSteps:=1000000) only [go_sem,aoY,Xy,hkl,hul,c2,hw2,Int.toNat_natCast,vx,vu,JF]|(refine hK _ ?_;clear hK K')|apply And.intro|((first|apply Qv|apply Jm);(focus first|exact gV|exact (QV _ zsd).b|exact (Js _ _ zsd zsd zsd).b|exact (QT _ _ zsd zsd).b|exact (JZ _ _).b|exact (J8 _ _ _ zsd zsd zsd).b|exact (Yv _ _ zsd).b))|exact zlo|omega|exact zms)
        all_goals first
          | exact hL2 _ (m + 1) (QO []) ⟨by omega,hsm.symm⟩ (by omega) (JE [] (by simp only [go_sem,and_true,true_and,implies_true,Option.some.injEq,exists_eq_left',Qh,Qj,aoY];(repeat' (first|rfl|apply And.intro|omega|exact fun h=>h|exact Exists.intro _ rfl))) (by simp) (by simp [QO]) (by simp) (by omega))
  have c1:decide ((k:Int) < (ks.length:Int)) = false:=decide_eq_false (by have:=Xx hd;omega)
  rw [hd] at hinv
  rw [← hinv]
  simp only [List.any_nil,Bool.false_eq_true,if_false]
  repeat' (first|refine Qb fun K' hK=>?_|refine Qe fun K' hK=>?_|refine Ql 30 (fun _=>true) rfl (QX _) (QW _) fun K' hK=>?_|refine Qm 30 (fun _=>true) rfl (QX _) (QW _) fun K' hK=>?_|refine Qc ?_|refine Qd ?_|refine Qa ?_|((first|refine Qg ⟨_,rfl,fun hc=>?_,fun hc=>?_⟩|refine Qs (fun hc=>?_) (fun hc=>?_)|refine Qt (fun hc=>?_) (fun hc=>?_))<;>first|(cases hc;done)|((try simp only [znz] at hc);first|exact znf|skip))|refine Qi ?_|refine Qf ?_|simp (maxSteps:=1000000) only [go_sem,ao6,Xy,hkl,c1,JF]|(refine hK _ ?_;clear hK K')|apply And.intro|((first|apply Qv|apply Jm);(focus first|exact (QV _ zsd).b|exact (Js _ _ zsd zsd zsd).b|exact (QT _ _ zsd zsd).b|exact (JZ _ _).b|exact (J8 _ _ _ zsd zsd zsd).b|exact (Yv _ _ zsd).b))|exact zlo|omega|exact zms)
  clear hd hinv hL1 K1 c1 hkk
  rw [← ak4 l ks a]
  have hRl:(List.range l.length).length = l.length:=List.length_range
  refine JR (ι:=Nat) (fun k=>k≤ks.length) (fun k=>aoX l ks bs ((ks.take k).flatMap (akD l a)) k) (fun k=>ks.length - k) 0 (by omega) (QO []) (JE [] (by simp only [go_sem,and_true,true_and,implies_true,Option.some.injEq,exists_eq_left',Qh,Qj,aoX];(repeat' (first|rfl|apply And.intro|omega|exact fun h=>h|exact Exists.intro _ rfl))) (by simp) (by simp [QO]) (by simp) (by omega)) fun k hkk K1 hL1=>?_
  by_cases hke:k = ks.length
  · have c1:decide ((ks.length:Int) < (ks.length:Int)) = false:=decide_eq_false (by omega)
    rw [hke,List.take_length]
    repeat' (first|refine Qb fun K' hK=>?_|refine Qe fun K' hK=>?_|refine Ql 30 (fun _=>true) rfl (QX _) (QW _) fun K' hK=>?_|refine Qm 30 (fun _=>true) rfl (QX _) (QW _) fun K' hK=>?_|refine Qc ?_|refine Qd ?_|refine Qa ?_|((first|refine Qg ⟨_,rfl,fun hc=>?_,fun hc=>?_⟩|refine Qs (fun hc=>?_) (fun hc=>?_)|refine Qt (fun hc=>?_) (fun hc=>?_))<;>first|(cases hc;done)|((try simp only [znz] at hc);first|exact znf|skip))|refine Qi ?_|refine Qf ?_|simp (maxSteps:=1000000) only [go_sem,aoX,Xy,hkl,c1,JF]|(refine hK _ ?_;clear hK K')|apply And.intro|((first|apply Qv|apply Jm);(focus first|exact (QV _ zsd).b|exact (Js _ _ zsd zsd zsd).b|exact (QT _ _ zsd zsd).b|exact (JZ _ _).b|exact (J8 _ _ _ zsd zsd zsd).b|exact (Yv _ _ zsd).b))|exact zlo|omega|exact zms)
    all_goals first|(refine QM _ rfl ?_;simp only [go_sem];done)|(refine QM _ rfl ?_;simp only [go_sem];first|done|rfl|exact ⟨_,_,rfl⟩)
  have c1:decide ((k:Int) < (ks.length:Int)) = true:=decide_eq_true (by omega)
  have hw:=Jq (k:=k) (by omega)
  obtain ⟨x,hgx⟩:∃ x,ks[k]? = some x:=⟨ks[k],List.getElem?_eq_getElem (by omega)⟩
  have hxz:=hk.2 x (List.mem_of_getElem? hgx)
  have vx:=hgk k x hgx
  have hul:(x.uses.map usV).length = x.uses.length:=List.length_map _
  have hA1:=agE (f:=akD l a) hgx
  have hA2:=ahI (f:=akD l a) ks (k + 1)
  rw [hA1,List.length_append] at hA2
  have hA3:(aoD l ks a).length = (ks.flatMap (akD l a)).length:=rfl
  have hL1':∀ (s':St) (τ:Nat→Nat),afe C.m τ s' (aoX l ks bs ((ks.take k).flatMap (akD l a)++akD l a x) (k + 1))→K1 s':=fun s' τ h=>hL1 s' (k + 1) τ (by omega) (by omega) (by rw [hA1];exact h)
  generalize (ks.take k).flatMap (akD l a) = L at *
  repeat' (first|refine Qb fun K' hK=>?_|refine Qe fun K' hK=>?_|refine Ql 30 (fun _=>true) rfl (QX _) (QW _) fun K' hK=>?_|refine Qm 30 (fun _=>true) rfl (QX _) (QW _) fun K' hK=>?_|refine Qc ?_|refine Qd ?_|refine Qa ?_|((first|refine Qg ⟨_,rfl,fun hc=>?_,fun hc=>?_⟩|refine Qs (fun hc=>?_) (fun hc=>?_)|refine Qt (fun hc=>?_) (fun hc=>?_))<;>first|(cases hc;done)|((try simp only [znz] at hc);first|exact znf|skip))|refine Qi ?_|refine Qf ?_|simp (maxSteps:=1000000) only [go_sem,aoX,Xy,hkl,c1,JF]|(refine hK _ ?_;clear hK K')|apply And.intro|((first|apply Qv|apply Jm);(focus first|exact (QV _ zsd).b|exact (Js _ _ zsd zsd zsd).b|exact (QT _ _ zsd zsd).b|exact (JZ _ _).b|exact (J8 _ _ _ zsd zsd zsd).b|exact (Yv _ _ zsd).b))|exact zlo|omega|exact zms)
  refine JR (ι:=Nat) (fun m=>m≤l.length) (fun m=>akU l ks bs (L++((List.range l.length).take m).flatMap (aic l a x)) k m) (fun m=>l.length - m) 0 (by omega) (QO []) (JE [] (by simp only [go_sem,and_true,true_and,implies_true,Option.some.injEq,exists_eq_left',Qh,Qj,akU,List.take_zero,List.flatMap_nil,List.append_nil];(repeat' (first|rfl|apply And.intro|omega|exact fun h=>h|exact Exists.intro _ rfl))) (by simp) (by simp [QO]) (by simp) (by omega)) fun m hm K2 hL2=>?_
  by_cases hme:m = l.length
  · have c2:decide ((m:Int) < (l.length:Int)) = false:=decide_eq_false (by omega)
    have e5:((List.range l.length).take m).flatMap (aic l a x) = akD l a x:=by rw [List.take_of_length_le (by omega)];rfl
    rw [e5]
    repeat' (first|refine Qb fun K' hK=>?_|refine Qe fun K' hK=>?_|refine Ql 30 (fun _=>true) rfl (QX _) (QW _) fun K' hK=>?_|refine Qm 30 (fun _=>true) rfl (QX _) (QW _) fun K' hK=>?_|refine Qc ?_|refine Qd ?_|refine Qa ?_|((first|refine Qg ⟨_,rfl,fun hc=>?_,fun hc=>?_⟩|refine Qs (fun hc=>?_) (fun hc=>?_)|refine Qt (fun hc=>?_) (fun hc=>?_))<;>first|(cases hc;done)|((try simp only [znz] at hc);first|exact znf|skip))|refine Qi ?_|refine Qf ?_|simp (maxSteps:=1000000) only [go_sem,akU,Xy,hpl,c2,hw,JF]|(refine hK _ ?_;clear hK K')|apply And.intro|((first|apply Qv|apply Jm);(focus first|exact (QV _ zsd).b|exact (Js _ _ zsd zsd zsd).b|exact (QT _ _ zsd zsd).b|exact (JZ _ _).b|exact (J8 _ _ _ zsd zsd zsd).b|exact (Yv _ _ zsd).b))|exact zlo|omega|exact zms)
    all_goals first
      | exact hL1' _ (QO []) (JE [] (by simp only [go_sem,and_true,true_and,implies_true,Option.some.injEq,exists_eq_left',Qh,Qj,aoX];(repeat' (first|rfl|apply And.intro|omega|exact fun h=>h|exact Exists.intro _ rfl))) (by simp) (by simp [QO]) (by simp) (by omega))
  have c2:decide ((m:Int) < (l.length:Int)) = true:=decide_eq_true (by omega)
  have hw2:=Jq (k:=m) (by omega)
  obtain ⟨p,hp⟩:∃ p,l[m]? = some p:=⟨l[m],List.getElem?_eq_getElem (by omega)⟩
  have hpz:=hl.2 p (List.mem_of_getElem? hp)
  have vp:(l.map Qu.v)[m]? = some (V.agg [V.str p.name,.sl 1 (p.ver.map V.int),.sl 3 (p.needs.map JS.v)]):=by rw [List.getElem?_map,hp];rfl
  have vb:(bs.map V.bool)[m]? = some (V.sc (Value.bool (aj8 l a m))):=by rw [List.getElem?_map,hget (by omega)];rfl
  have hRm:(List.range l.length)[m]? = some m:=by rw [List.getElem?_range (by omega)]
  have hB1:=agE (f:=aic l a x) hRm
  have hB2:=ahI (f:=aic l a x) (List.range l.length) (m + 1)
  have hB3:(akD l a x).length = ((List.range l.length).flatMap (aic l a x)).length:=rfl
  rw [hB1,List.length_append] at hB2
  have hcr:aic l a x m = if (aj8 l a m && ((p.name == x.name) && inV x.lo x.up p.ver)) = true then x.uses else []:=by
    unfold aic afd aiC
    rw [v6 hp,agZ hp,Bool.beq_comm (a:=x.name)]
    rcases aj8 l a m with _|_<;>simp
  have hL2':∀ (s':St) (τ:Nat→Nat),afe C.m τ s' (akU l ks bs (L++((List.range l.length).take m).flatMap (aic l a x)++aic l a x m) k (m + 1))→K2 s':=fun s' τ h=>hL2 s' (m + 1) τ (by omega) (by omega) (by rw [hB1,← List.append_assoc];exact h)
  have hLL:(L++((List.range l.length).take m).flatMap (aic l a x)).length + (aic l a x m).length≤1000:=by rw [List.length_append];omega
  generalize L++((List.range l.length).take m).flatMap (aic l a x) = L2 at *
  have gI:=(J8 x.lo x.up p.ver hxz.1 hxz.2.1 hpz.2.1).b
  simp only [ye] at gI
  rw [hcr] at hL2' hLL
  rcases hb1:aj8 l a m with _|_
  · rw [hb1] at vb hL2'
    simp only [Bool.false_and,Bool.false_eq_true,if_false,List.append_nil] at hL2'
    repeat' (first|refine Qb fun K' hK=>?_|refine Qe fun K' hK=>?_|refine Ql 30 (fun _=>true) rfl (QX _) (QW _) fun K' hK=>?_|refine Qm 30 (fun _=>true) rfl (QX _) (QW _) fun K' hK=>?_|refine Qc ?_|refine Qd ?_|refine Qa ?_|((first|refine Qg ⟨_,rfl,fun hc=>?_,fun hc=>?_⟩|refine Qs (fun hc=>?_) (fun hc=>?_)|refine Qt (fun hc=>?_) (fun hc=>?_))<;>first|(cases hc;done)|((try simp only [znz] at hc);first|exact znf|skip))|refine Qi ?_|refine Qf ?_|simp (maxSteps:=1000000) only [go_sem,akU,Xy,hpl,c2,hw2,Int.toNat_natCast,vb,vp,vx,JF]|(refine hK _ ?_;clear hK K')|apply And.intro|((first|apply Qv|apply Jm);(focus first|exact (QV _ zsd).b|exact (Js _ _ zsd zsd zsd).b|exact (QT _ _ zsd zsd).b|exact (JZ _ _).b|exact (J8 _ _ _ zsd zsd zsd).b|exact (Yv _ _ zsd).b))|exact zlo|omega|exact zms)
    all_goals first
      | exact hL2' _ (QO []) (JE [] (by simp only [go_sem,and_true,true_and,implies_true,Option.some.injEq,exists_eq_left',Qh,Qj,akU];(repeat' (first|rfl|apply And.intro|omega|exact fun h=>h|exact Exists.intro _ rfl))) (by simp) (by simp [QO]) (by simp) (by omega))
  rw [hb1] at vb hL2' hLL
  rcases hb2:(p.name == x.name) with _|_
  · rw [hb2] at hL2'
    simp only [Bool.false_and,Bool.and_false,Bool.false_eq_true,if_false,List.append_nil] at hL2'
    repeat' (first|refine Qb fun K' hK=>?_|refine Qe fun K' hK=>?_|refine Ql 30 (fun _=>true) rfl (QX _) (QW _) fun K' hK=>?_|refine Qm 30 (fun _=>true) rfl (QX _) (QW _) fun K' hK=>?_|refine Qc ?_|refine Qd ?_|refine Qa ?_|((first|refine Qg ⟨_,rfl,fun hc=>?_,fun hc=>?_⟩|refine Qs (fun hc=>?_) (fun hc=>?_)|refine Qt (fun hc=>?_) (fun hc=>?_))<;>first|(cases hc;done)|((try simp only [znz] at hc);first|exact znf|skip))|refine Qi ?_|refine Qf ?_|simp (maxSteps:=1000000) only [go_sem,akU,Xy,hpl,c2,hw2,Int.toNat_natCast,vb,vp,vx,hb2,JF]|(refine hK _ ?_;clear hK K')|apply And.intro|((first|apply Qv|apply Jm);(focus first|exact (QV _ zsd).b|exact (Js _ _ zsd zsd zsd).b|exact (QT _ _ zsd zsd).b|exact (JZ _ _).b|exact (J8 _ _ _ zsd zsd zsd).b|exact (Yv _ _ zsd).b))|exact zlo|omega|exact zms)
    all_goals first
      | exact hL2' _ (QO []) (JE [] (by simp only [go_sem,and_true,true_and,implies_true,Option.some.injEq,exists_eq_left',Qh,Qj,akU];(repeat' (first|rfl|apply And.intro|omega|exact fun h=>h|exact Exists.intro _ rfl))) (by simp) (by simp [QO]) (by simp) (by omega))
  rw [hb2] at hL2' hLL
  rcases hb3:inV x.lo x.up p.ver with _|_
  · rw [hb3] at hL2' gI
    simp only [Bool.and_false,Bool.false_eq_true,if_false,List.append_nil] at hL2'
    repeat' (first|refine Qb fun K' hK=>?_|refine Qe fun K' hK=>?_|refine Ql 30 (fun _=>true) rfl (QX _) (QW _) fun K' hK=>?_|refine Qm 30 (fun _=>true) rfl (QX _) (QW _) fun K' hK=>?_|refine Qc ?_|refine Qd ?_|refine Qa ?_|((first|refine Qg ⟨_,rfl,fun hc=>?_,fun hc=>?_⟩|refine Qs (fun hc=>?_) (fun hc=>?_)|refine Qt (fun hc=>?_) (fun hc=>?_))<;>first|(cases hc;done)|((try simp only [znz] at hc);first|exact znf|skip))|refine Qi ?_|refine Qf ?_|simp (maxSteps:=1000000) only [go_sem,akU,Xy,hpl,c2,hw2,Int.toNat_natCast,vb,vp,vx,hb2,JF]|(refine hK _ ?_;clear hK K')|apply And.intro|((first|apply Qv|apply Jm);(focus first|exact gI|exact (QV _ zsd).b|exact (Js _ _ zsd zsd zsd).b|exact (QT _ _ zsd zsd).b|exact (JZ _ _).b|exact (J8 _ _ _ zsd zsd zsd).b|exact (Yv _ _ zsd).b))|exact zlo|omega|exact zms)
    all_goals first
      | exact hL2' _ (QO []) (JE [] (by simp only [go_sem,and_true,true_and,implies_true,Option.some.injEq,exists_eq_left',Qh,Qj,akU];(repeat' (first|rfl|apply And.intro|omega|exact fun h=>h|exact Exists.intro _ rfl))) (by simp) (by simp [QO]) (by simp) (by omega))
  rw [hb3] at hL2' gI hLL
  simp only [Bool.and_self,if_true] at hL2' hLL
  repeat' (first|refine Qb fun K' hK=>?_|refine Qe fun K' hK=>?_|refine Ql 30 (fun _=>true) rfl (QX _) (QW _) fun K' hK=>?_|refine Qm 30 (fun _=>true) rfl (QX _) (QW _) fun K' hK=>?_|refine Qc ?_|refine Qd ?_|refine Qa ?_|((first|refine Qg ⟨_,rfl,fun hc=>?_,fun hc=>?_⟩|refine Qs (fun hc=>?_) (fun hc=>?_)|refine Qt (fun hc=>?_) (fun hc=>?_))<;>first|(cases hc;done)|((try simp only [znz] at hc);first|exact znf|skip))|refine Qi ?_|refine Qf ?_|simp (maxSteps:=1000000) only [go_sem,akU,Xy,hpl,c2,Int.toNat_natCast,vb,vp,vx,hb2,JF]|(refine hK _ ?_;clear hK K')|apply And.intro|((first|apply Qv|apply Jm);(focus first|exact gI|exact (QV _ zsd).b|exact (Js _ _ zsd zsd zsd).b|exact (QT _ _ zsd zsd).b|exact (JZ _ _).b|exact (J8 _ _ _ zsd zsd zsd).b|exact (Yv _ _ zsd).b))|exact zlo|omega|exact zms)
  refine JR (ι:=Nat) (fun j=>j≤x.uses.length) (fun j=>aoW l ks bs (L2++x.uses.take j) k m j) (fun j=>x.uses.length - j) 0 (by omega) (QO []) (JE [] (by simp only [go_sem,and_true,true_and,implies_true,Option.some.injEq,exists_eq_left',Qh,Qj,aoW,List.take_zero,List.append_nil];(repeat' (first|rfl|apply And.intro|omega|exact fun h=>h|exact Exists.intro _ rfl))) (by simp) (by simp [QO]) (by simp) (by omega)) fun j hj K3 hL3=>?_
  by_cases hje:j = x.uses.length
  · have c3:decide ((j:Int) < (x.uses.length:Int)) = false:=decide_eq_false (by omega)
    have e5:x.uses.take j = x.uses:=List.take_of_length_le (by omega)
    rw [e5]
    repeat' (first|refine Qb fun K' hK=>?_|refine Qe fun K' hK=>?_|refine Ql 30 (fun _=>true) rfl (QX _) (QW _) fun K' hK=>?_|refine Qm 30 (fun _=>true) rfl (QX _) (QW _) fun K' hK=>?_|refine Qc ?_|refine Qd ?_|refine Qa ?_|((first|refine Qg ⟨_,rfl,fun hc=>?_,fun hc=>?_⟩|refine Qs (fun hc=>?_) (fun hc=>?_)|refine Qt (fun hc=>?_) (fun hc=>?_))<;>first|(cases hc;done)|((try simp only [znz] at hc);first|exact znf|skip))|refine Qi ?_|refine Qf ?_|simp (maxSteps:=1000000) only [go_sem,aoW,Xy,hkl,hul,c3,hw2,Int.toNat_natCast,vx,JF]|(refine hK _ ?_;clear hK K')|apply And.intro|((first|apply Qv|apply Jm);(focus first|exact (QV _ zsd).b|exact (Js _ _ zsd zsd zsd).b|exact (QT _ _ zsd zsd).b|exact (JZ _ _).b|exact (J8 _ _ _ zsd zsd zsd).b|exact (Yv _ _ zsd).b))|exact zlo|omega|exact zms)
    all_goals first
      | exact hL2' _ (QO []) (JE [] (by simp only [go_sem,and_true,true_and,implies_true,Option.some.injEq,exists_eq_left',Qh,Qj,akU];(repeat' (first|rfl|apply And.intro|omega|exact fun h=>h|exact Exists.intro _ rfl))) (by simp) (by simp [QO]) (by simp) (by omega))
  have c3:decide ((j:Int) < (x.uses.length:Int)) = true:=decide_eq_true (by omega)
  have hw3:=Jq (k:=j) (by have:=hxz.2.2.1;omega)
  obtain ⟨u,hgu⟩:∃ u,x.uses[j]? = some u:=⟨x.uses[j],List.getElem?_eq_getElem (by omega)⟩
  have vu:(x.uses.map usV)[j]? = some (V.agg [V.int u.1,V.int u.2]):=by rw [List.getElem?_map,hgu];rfl
  have htk:L2++x.uses.take (j + 1) = (L2++x.uses.take j)++[u]:=by rw [List.take_add_one,hgu,List.append_assoc];rfl
  have hpl2:(ajb (L2++x.uses.take j)).length < 2 ^ 30:=by
    have:=(aeq (L2++x.uses.take j)).2.2
    rw [List.length_append,List.length_take] at this
    omega
  have gP:=(Yv (ajb (L2++x.uses.take j)) u hpl2).b
  simp only [usV] at gP
  rw [← amM,← htk] at gP
  have hL3':∀ (s':St) (τ:Nat→Nat),afe C.m τ s' (aoW l ks bs (L2++x.uses.take (j + 1)) k m (j + 1))→K3 s':=fun s' τ h=>hL3 s' (j + 1) τ (by omega) (by omega) h
  repeat' (first|refine Qb fun K' hK=>?_|refine Qe fun K' hK=>?_|refine Ql 30 (fun _=>true) rfl (QX _) (QW _) fun K' hK=>?_|refine Qm 30 (fun _=>true) rfl (QX _) (QW _) fun K' hK=>?_|refine Qc ?_|refine Qd ?_|refine Qa ?_|((first|refine Qg ⟨_,rfl,fun hc=>?_,fun hc=>?_⟩|refine Qs (fun hc=>?_) (fun hc=>?_)|refine Qt (fun hc=>?_) (fun hc=>?_))<;>first|(cases hc;done)|((try simp only [znz] at hc);first|exact znf|skip))|refine Qi ?_|refine Qf ?_|simp (maxSteps:=1000000) only [go_sem,aoW,Xy,hkl,hul,c3,hw3,Int.toNat_natCast,vx,vu,JF]|(refine hK _ ?_;clear hK K')|apply And.intro|((first|apply Qv|apply Jm);(focus first|exact gP|exact (QV _ zsd).b|exact (Js _ _ zsd zsd zsd).b|exact (QT _ _ zsd zsd).b|exact (JZ _ _).b|exact (J8 _ _ _ zsd zsd zsd).b|exact (Yv _ _ zsd).b))|exact zlo|omega|exact zms)
  all_goals first
    | exact hL3' _ (QO []) (JE [] (by simp only [go_sem,and_true,true_and,implies_true,Option.some.injEq,exists_eq_left',Qh,Qj,aoW];(repeat' (first|rfl|apply And.intro|omega|exact fun h=>h|exact Exists.intro _ rfl))) (by simp) (by simp [QO]) (by simp) (by omega))
end Av
end
section
set_option linter.unusedSimpArgs false
set_option linter.unusedVariables false
set_option maxRecDepth 10000
set_option maxHeartbeats 4000000
namespace Av
open Go
attribute [local irreducible] AWp WY Vp Vq awS awC V1 awQ Uh Q9 YQ VZ awR YT awB okR Ww ris
theorem akm {l:List Qu} (h5:l.length≤5):∃ (a:List (List UInt8)) (e:Int),ahk l = .tup [.sl 1 (a.map V.str),V.int e]∧a.length≤5:=by
  unfold ahk
  split
  · refine ⟨aos l,0,rfl,?_⟩
    unfold aos
    rw [List.length_map]
    exact Nat.le_trans (List.length_filter_le _ _) h5
  · exact ⟨[],Y8 l,rfl,by simp⟩
theorem ahc {l:List Qu} (h5:l.length≤5) (s:List UInt8):∃ (a:List (List UInt8)) (e:Int),q8 l s = .tup [.sl 1 (a.map V.str),V.int e]∧a.length≤5:=by
  unfold q8
  split
  · exact ⟨adl l (WQ l s).1.toNat,0,rfl,Nat.le_trans aj5 h5⟩
  · exact ⟨[],(WQ l s).2,rfl,by simp⟩
theorem ajU {l:List Qu} {ks:List JL} (hk:yv 3 ks) (s:List UInt8):∃ (a:List PU) (e:Int),ads l ks s = .tup [.sl 2 (a.map usV),V.int e]∧a.length < 2 ^ 60:=by
  refine ⟨aif l ks s,abn l ks s,rfl,?_⟩
  unfold aif
  split
  · rename_i h
    have hs:(WQ l s).2 = 0:=by
      unfold abn at h
      split at h
      · rename_i h2;exact absurd h h2
      · rename_i h2;simpa using h2
    have h1:=agb hk (WQ l s).1.toNat (aef hs).1
    have h2:=anj eqU (Uq ltU (adW l ks (WQ l s).1.toNat))
    rw [yy] at h2
    unfold ag0;omega
  · simp
def Kh (xe qp wx xf jB QP UC ql Kz yh qn xd Ye Ya VN Ky:Nat):AC:=Qo [0,1] (.reg [mc 4 (V.bool false)]) (Qo [0,1] (Qo [0,1,28] (.reg [mv 21 0,cl 22 xe [21],xo 23 (.un .not (.t 22)),mv 24 23,mg 25 1 24 false,xg 26 (.lenS (.t 25)) 24 false,xg 27 (.bin .gtr (.t 26) (.c (V.int 100))) 24 false,xo 28 (.pick (.t 24) (.c (V.bool true)) (.t 27))]) (.cond (.t 28) (Qo [4] (.reg [cl 29 qp [],mv 4 29]) (.ret)) (.skip))) (Qo [1,5] (.reg [mv 30 0,cl 31 wx [30],mv 5 31]) (Qo [1,5,6,7] (.reg [mv 32 5,cl 33 xf [32],mv 34 5,cl 35 jB [34],mv 6 33,mv 7 35]) (Qo [6,7,8] (.reg [mv 36 5,mv 37 1,xo 38 (.bslice 5 1 false [(.string ⟨#[]⟩)] [(0,(.c (V.str [97,112,112]))),(1,(.c (V.str [115,115,108]))),(2,(.c (V.str [108,105,98]))),(3,(.c (V.str [110,111,110,101]))),(4,(.t 37))]),cl 39 QP [36,38],mv 8 39]) (Qo [6,7,8,9,10] (.reg [mv 41 6,cl 42 UC [41],mv 40 42,ex 43 40 0,ex 44 40 1,mv 9 43,mv 10 44]) (Qo [6,7,8,9,10,11,12] (.reg [mv 46 6,cl 47 ql [46],mv 45 47,ex 48 45 0,ex 49 45 1,mv 11 48,mv 12 49]) (Qo [6,7,8,9,10,11,12,13,14] (.reg [mv 51 6,mv 52 8,cl 53 Kz [51,52],mv 50 53,ex 54 50 0,ex 55 50 1,mv 13 54,mv 14 55]) (Qo [6,7,8,9,10,11,12,13,14,15,16] (.reg [mv 57 6,mv 58 8,cl 59 yh [57,58],mv 56 59,ex 60 56 0,ex 61 56 1,mv 15 60,mv 16 61]) (Qo [6,7,8,9,10,11,12,13,14,15,16,17,18] (.reg [mv 63 6,mv 64 7,mv 65 8,cl 66 qn [63,64,65],mv 62 66,ex 67 62 0,ex 68 62 1,mv 17 67,mv 18 68]) (Qo [6,9,10,11,12,13,14,15,16,17,18,19,20] (.reg [mv 70 6,mv 71 7,mv 72 8,cl 73 xd [70,71,72],mv 69 73,ex 74 69 0,ex 75 69 1,mv 19 74,mv 20 75]) (Qo [4] (.reg [mv 76 6,cl 77 Ye [76],mv 78 6,cl 79 Ya [78],bn 80 .eql 77 79,mv 81 80,mg 82 10 81 true,mg 83 12 81 true,xg 84 (.bin .eql (.t 82) (.t 83)) 81 true,xo 85 (.pick (.t 81) (.t 84) (.c (V.bool false))),mv 86 85,mg 87 9 86 true,mg 88 11 86 true,xg 89 (.call VN [(.t 87),(.t 88)]) 86 true,xo 90 (.pick (.t 86) (.t 89) (.c (V.bool false))),mv 91 90,mg 92 14 91 true,mg 93 16 91 true,xg 94 (.bin .eql (.t 92) (.t 93)) 91 true,xo 95 (.pick (.t 91) (.t 94) (.c (V.bool false))),mv 96 95,mg 97 13 96 true,mg 98 15 96 true,xg 99 (.call VN [(.t 97),(.t 98)]) 96 true,xo 100 (.pick (.t 96) (.t 99) (.c (V.bool false))),mv 101 100,mg 102 18 101 true,mg 103 20 101 true,xg 104 (.bin .eql (.t 102) (.t 103)) 101 true,xo 105 (.pick (.t 101) (.t 104) (.c (V.bool false))),mv 106 105,mg 107 17 106 true,mg 108 19 106 true,xg 109 (.call Ky [(.t 107),(.t 108)]) 106 true,xo 110 (.pick (.t 106) (.t 109) (.c (V.bool false))),mv 111 110,xg 112 (.call qp []) 111 true,xo 113 (.pick (.t 111) (.t 112) (.c (V.bool false))),mv 4 113]) (.ret)))))))))))) def r_law12_PackagesMade:List X0:=[.tmp 4]
def jO (Γ:Env) (f:Nat):Prop:=∀ (l:List Int) (name:List UInt8),EvN Γ f [.sl 1 (l.map V.int),V.str name] (V.bool true)
theorem vE {Γ:Env} {f xe qp wx xf jB QP UC ql Kz yh qn xd Ye Ya VN Ky:Nat} (h:Has Γ.P f 114 (Kh xe qp wx xf jB QP UC ql Kz yh qn xd Ye Ya VN Ky) r_law12_PackagesMade) (xb:wW Γ xe) (qj:xQ Γ qp) (yw:vX Γ wx) (ahv:wX Γ xf) (jx:yX Γ jB) (Qp:VE Γ QP) (Vx:KW Γ UC) (UN:j5 Γ ql) (Up:jw Γ Kz) (qi:xN Γ yh) (UO:j9 Γ qn) (jI:wT Γ xd) (JO:VW Γ Ye) (QV:Uy Γ Ya) (Vd:qI Γ VN) (Uo:ju Γ Ky):jO Γ f:=by
  intro l name
  refine QQ h (by simp) (by simp only [V.closed,Qn,V.noSl,Jx,and_self,and_true,true_and]) (by simp only [V.closed,Qn,V.noSl,Jx,and_self,and_true,true_and]) fun C hC hm=>?_
  subst hC
  unfold Kh
  have gA:=(qj).b
  by_cases hlen:l.length≤400
  case neg =>
    have e0:decide ((l.length:Int)≤400) = false:=by simp;omega
    repeat' (first|refine Qb fun K' hK=>?_|refine Qe fun K' hK=>?_|refine Qc ?_|refine Qd ?_|refine Qa ?_|((first|refine Qg ⟨_,rfl,fun hc=>?_,fun hc=>?_⟩|refine Qs (fun hc=>?_) (fun hc=>?_)|refine Qt (fun hc=>?_) (fun hc=>?_))<;>first|(cases hc;done)|((try simp only [znz] at hc);first|exact znf|skip))|refine Qi ?_|refine Qf ?_|simp (maxSteps:=1000000) only [go_sem,e0]|(refine hK _ ?_;clear hK K')|apply And.intro|(apply XQ;(focus exact rfl);(focus first|exact (Qp _ _ _ zsd zsd zsd zsd));(focus exact rfl);(focus exact rfl))|(apply ajQ;(focus exact rfl);(focus first|exact (jx _ _ zsd zsd));(focus exact rfl);(focus exact rfl);(focus (first|exact rfl|exact trivial|(simp;done)|skip));(rintro _ _ ⟨gx,gk,hgk,hgP,rfl,rfl⟩))|(apply ajP;(focus first|exact (yw _)))|(apply Qv;(focus first|exact gA|exact (xb _).b|exact EvN.b qj|exact (Vx _ zsd).b|exact (UN _ zsd).b|exact (Up _ _ zsd zsd).b|exact (qi _ _ zsd).b|exact (UO _ _ _ zsd zsd zsd zsd).b|exact (jI _ _ _ zsd zsd zsd).b|exact (JO _ zsd).b|exact (QV _ zsd).b|exact (Vd _ zsd).b|exact (Uo _ zsd).b))|exact zlo|omega|exact zms)
    all_goals first|(refine QM _ rfl ?_;simp only [go_sem];done)
  have e0:decide ((l.length:Int)≤400) = true:=by simp;omega
  by_cases hnl:(name.length:Int) > 100
  · have e1:decide ((name.length:Int) > 100) = true:=decide_eq_true hnl
    repeat' (first|refine Qb fun K' hK=>?_|refine Qe fun K' hK=>?_|refine Qc ?_|refine Qd ?_|refine Qa ?_|((first|refine Qg ⟨_,rfl,fun hc=>?_,fun hc=>?_⟩|refine Qs (fun hc=>?_) (fun hc=>?_)|refine Qt (fun hc=>?_) (fun hc=>?_))<;>first|(cases hc;done)|((try simp only [znz] at hc);first|exact znf|skip))|refine Qi ?_|refine Qf ?_|simp (maxSteps:=1000000) only [go_sem,e0,e1]|(refine hK _ ?_;clear hK K')|apply And.intro|(apply XQ;(focus exact rfl);(focus first|exact (Qp _ _ _ zsd zsd zsd zsd));(focus exact rfl);(focus exact rfl))|(apply ajQ;(focus exact rfl);(focus first|exact (jx _ _ zsd zsd));(focus exact rfl);(focus exact rfl);(focus (first|exact rfl|exact trivial|(simp;done)|skip));(rintro _ _ ⟨gx,gk,hgk,hgP,rfl,rfl⟩))|(apply ajP;(focus first|exact (yw _)))|(apply Qv;(focus first|exact gA|exact (xb _).b|exact EvN.b qj|exact (Vx _ zsd).b|exact (UN _ zsd).b|exact (Up _ _ zsd zsd).b|exact (qi _ _ zsd).b|exact (UO _ _ _ zsd zsd zsd zsd).b|exact (jI _ _ _ zsd zsd zsd).b|exact (JO _ zsd).b|exact (QV _ zsd).b|exact (Vd _ zsd).b|exact (Uo _ zsd).b))|exact zlo|omega|exact zms)
    all_goals first|(refine QM _ rfl ?_;simp only [go_sem];done)
  have e1:decide ((name.length:Int) > 100) = false:=decide_eq_false hnl
  have n1:=yw l
  have n2:=apZ (ahv l 0 hlen (by omega))
  repeat' (first|refine Qb fun K' hK=>?_|refine Qe fun K' hK=>?_|refine Qc ?_|refine Qd ?_|refine Qa ?_|((first|refine Qg ⟨_,rfl,fun hc=>?_,fun hc=>?_⟩|refine Qs (fun hc=>?_) (fun hc=>?_)|refine Qt (fun hc=>?_) (fun hc=>?_))<;>first|(cases hc;done)|((try simp only [znz] at hc);first|exact znf|skip))|refine Qi ?_|refine Qf ?_|simp (maxSteps:=1000000) only [go_sem,e0,e1,J3]|(refine hK _ ?_;clear hK K')|apply And.intro|(apply XQ;(focus exact rfl);(focus first|exact (Qp _ _ _ zsd zsd zsd zsd));(focus exact rfl);(focus exact rfl))|(apply ajQ;(focus exact rfl);(focus first|exact n2|exact (jx _ _ zsd zsd));(focus exact rfl);(focus exact rfl);(focus (first|exact rfl|exact trivial|(simp;done)|skip));(rintro _ _ ⟨gx,gk,hgk,hgP,rfl,rfl⟩))|(apply ajP;(focus first|exact n1|exact (yw _)))|(apply Qv;(focus first|exact gA|exact (xb _).b|exact EvN.b qj|exact (Vx _ zsd).b|exact (UN _ zsd).b|exact (Up _ _ zsd zsd).b|exact (qi _ _ zsd).b|exact (UO _ _ _ zsd zsd zsd zsd).b|exact (jI _ _ _ zsd zsd zsd).b|exact (JO _ zsd).b|exact (QV _ zsd).b|exact (Vd _ zsd).b|exact (Uo _ zsd).b))|exact zlo|omega|exact zms)
  rename List Qu=>ps
  rename aay ps=>hok
  rename List JL=>ks
  rename yv 3 ks=>hks
  have hps:=hok.1
  have hsz:=alX hok
  have hkz:=anc hks
  have n5:=Qp l gk [[97,112,112],[115,115,108],[108,105,98],[110,111,110,101],name] hlen hgk (by simp) (by simp)
  generalize aci l gk [[97,112,112],[115,115,108],[108,105,98],[110,111,110,101],name] = w at *
  obtain ⟨s,k5⟩:=w
  simp only [J3,List.map_cons,List.map_nil] at n5
  have gC:=(JO ps hsz).b
  have gC2:=(QV ps hsz).b
  obtain ⟨a1,x1,hm,ha1⟩:=akm hps
  obtain ⟨a2,x2,hr,ha2⟩:=ahc hps s
  obtain ⟨a3,x3,hu,ha3⟩:=ajU (l:=ps) hks s
  have gM:=(Vx ps hsz).b
  have gM2:=(UN ps hsz).b
  rw [hm] at gM gM2
  have gR:=(Up ps s hsz (by omega)).b
  have gR2:=(qi ps s hsz).b
  rw [hr] at gR gR2
  have gU:=(UO ps ks s hsz (by omega) hkz (agb hks)).b
  have gU2:=(jI ps ks s hsz hkz (fun a=>by have:=akE hks hps a;omega)).b
  rw [hu] at gU gU2
  have gT1:=(Vd a1 (by omega)).b
  have gT2:=(Vd a2 (by omega)).b
  have gT3:=(Uo a3 ha3).b
  generalize Y8 ps = cc at *
  have q0:(cc == cc) = true:=by simp
  have q1:(x1 == x1) = true:=by simp
  have q2:(x2 == x2) = true:=by simp
  have q3:(x3 == x3) = true:=by simp
  repeat' (first|refine Qb fun K' hK=>?_|refine Qe fun K' hK=>?_|refine Qc ?_|refine Qd ?_|refine Qa ?_|((first|refine Qg ⟨_,rfl,fun hc=>?_,fun hc=>?_⟩|refine Qs (fun hc=>?_) (fun hc=>?_)|refine Qt (fun hc=>?_) (fun hc=>?_))<;>first|(cases hc;done)|((try simp only [znz] at hc);first|exact znf|skip))|refine Qi ?_|refine Qf ?_|simp (maxSteps:=1000000) only [go_sem,afR,af1,J3,q0,q1,q2,q3]|(refine hK _ ?_;clear hK K')|apply And.intro|(apply XQ;(focus exact rfl);(focus first|exact n5|exact (Qp _ _ _ zsd zsd zsd zsd));(focus exact rfl);(focus exact rfl))|(apply ajQ;(focus exact rfl);(focus first|exact (jx _ _ zsd zsd));(focus exact rfl);(focus exact rfl);(focus (first|exact rfl|exact trivial|(simp;done)|skip));(rintro _ _ ⟨gx,gk,hgk,hgP,rfl,rfl⟩))|(apply ajP;(focus first|exact (yw _)))|(apply Qv;(focus first|exact gM|exact gM2|exact gR|exact gR2|exact gU|exact gU2|exact gT1|exact gT2|exact gT3|exact gC|exact gC2|exact gA|exact (xb _).b|exact EvN.b qj|exact (Vx _ zsd).b|exact (UN _ zsd).b|exact (Up _ _ zsd zsd).b|exact (qi _ _ zsd).b|exact (UO _ _ _ zsd zsd zsd zsd).b|exact (jI _ _ _ zsd zsd zsd).b|exact (JO _ zsd).b|exact (QV _ zsd).b|exact (Vd _ zsd).b|exact (Uo _ zsd).b))|exact zlo|omega|exact zms)
  all_goals first|(refine QM _ rfl ?_;simp only [go_sem];done)
end Av
end
