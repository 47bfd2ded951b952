/- Slices of bytes. -/
import Derived.Test.YtalpffbofjlfgaaGreatDoorK14
import Derived.Test.YtalpffbofjlfgaaGreatDoorK11
import Derived.Test.YtalpffbofjlfgaaGreatDoorK12
set_option linter.unusedVariables false
set_option linter.unusedSimpArgs false
section
set_option linter.unusedSimpArgs false
set_option linter.unusedVariables false
set_option maxRecDepth 10000
set_option maxHeartbeats 4000000
namespace Av
open Go
attribute [local irreducible] AWp WY Vp Vq awS awC V1 awQ Uh Q9 YQ VZ awR YT awB okR Ww ris
end Av
end
section
set_option linter.unusedSimpArgs false
set_option linter.unusedVariables false
set_option maxRecDepth 10000
set_option maxHeartbeats 4000000
namespace Av
open Go
attribute [local irreducible] AWp WY Vp Vq awS awC V1 awQ Uh Q9 YQ VZ awR YT awB okR Ww ris
end Av
end
section
set_option linter.unusedSimpArgs false
set_option linter.unusedVariables false
set_option maxRecDepth 10000
set_option maxHeartbeats 4000000
namespace Av
open Go
attribute [local irreducible] AWp WY Vp Vq awS awC V1 awQ Uh Q9 YQ VZ awR YT awB okR Ww ris
def J3 (l:List Int) (k:Nat):List V:=[.sl 1 (l.map V.int),V.int k]
theorem JP (l:List Int) (k:Nat):Qn (J3 l k):=by simp only [J3,V.closed,Qn,and_self]
def Yz (l:List Int) (k:Nat) (n:Int):Int×Nat:=if k < l.length then (anO (l.getD k 0) n,k + 1) else (0,k)
theorem Wu {l:List Int} {k:Nat} {n:Int} (hk:k≤l.length):(Yz l k n).2≤l.length:=by
  unfold Yz;split
  · show k + 1≤l.length;omega
  · exact hk
theorem akk {a n:Int} (h1:1≤n) (h2:n < 2 ^ 62):0≤anO a n∧anO a n < n:=by
  unfold anO
  rw [if_neg (by omega)]
  have ha:=Int.tmod_lt_of_pos a (show 0 < n by omega)
  have hb:-n < a.tmod n:=by
    have:=Int.tmod_lt_of_pos (-a) (show 0 < n by omega)
    rw [Int.neg_tmod] at this;omega
  rw [WW (by omega) (by omega)]
  exact ⟨Int.tmod_nonneg _ (by omega),Int.tmod_lt_of_pos _ (by omega)⟩
theorem Xr {l:List Int} {k:Nat} {n:Int} (h1:1≤n) (h2:n < 2 ^ 62):0≤(Yz l k n).1∧(Yz l k n).1 < n:=by
  unfold Yz;split
  · exact akk h1 h2
  · show (0:Int)≤0∧(0:Int) < n;omega
def vM:AC:=Qo [0] (.reg [mc 2 (V.bool false)]) (Qo [2] (.reg [mv 3 0,ln 4 3,bc 5 .leq 4 (V.int 400),mv 2 5]) (.ret)) def r_make_Light:List X0:=[.tmp 2]
def wW (Γ:Env) (f:Nat):Prop:=∀ (l:List Int),EvN Γ f [.sl 1 (l.map V.int)] (V.bool (decide ((l.length:Int)≤400)))
theorem agL {Γ:Env} {f:Nat} (h:Has Γ.P f 6 vM r_make_Light) :wW Γ f:=by
  intro l
  refine QQ h (by simp) (by simp only [V.closed,Qn,V.noSl,Jx,and_self,and_true,true_and]) (by simp only [V.closed,Qn,V.noSl,Jx,and_self,and_true,true_and]) fun C hC hm=>?_
  subst hC
  unfold vM
  repeat' (first|refine Qb fun K' hK=>?_|refine Qe fun K' hK=>?_|refine Qc ?_|refine Qd ?_|refine Qa ?_|((first|refine Qg ⟨_,rfl,fun hc=>?_,fun hc=>?_⟩|refine Qs (fun hc=>?_) (fun hc=>?_)|refine Qt (fun hc=>?_) (fun hc=>?_))<;>first|(cases hc;done)|((try simp only [znz] at hc);first|exact znf|skip))|refine Qi ?_|refine Qf ?_|simp (maxSteps:=1000000) only [go_sem,List.length_map]|(refine hK _ ?_;clear hK K')|apply And.intro|exact zlo|omega|exact zms)
  refine QM _ rfl ?_;simp only [go_sem]
def abf:AC:=Qo [0] (.reg [mc 2 (.sc (.pointer none))]) (Qo [2] (.reg [mv 3 0,xo 4 (.build [(.slice none 0 0),(.int .i64 0)] [(0,1,(.t 3))]),xo 5 (.box true 2 (.t 4)),mv 2 5]) (.ret)) def r_make_Roll:List X0:=[.tmp 2]
def vX (Γ:Env) (f:Nat):Prop:=∀ (l:List Int),EvR Γ f [.sl 1 (l.map V.int)] (J3 l 0)
theorem ahO {Γ:Env} {f:Nat} (h:Has Γ.P f 6 abf r_make_Roll) :vX Γ f:=by
  intro l
  refine aiL h (by simp) (by simp only [J3,V.closed,Qn,and_self]) fun C hC hm=>?_
  subst hC
  unfold abf
  repeat' (first|refine Qb fun K' hK=>?_|refine Qe fun K' hK=>?_|refine Qc ?_|refine Qd ?_|refine Qa ?_|((first|refine Qg ⟨_,rfl,fun hc=>?_,fun hc=>?_⟩|refine Qs (fun hc=>?_) (fun hc=>?_)|refine Qt (fun hc=>?_) (fun hc=>?_))<;>first|(cases hc;done)|((try simp only [znz] at hc);first|exact znf|skip))|refine Qi ?_|refine Qf ?_|simp (maxSteps:=1000000) only [go_sem]|(refine hK _ ?_;clear hK K')|apply And.intro|exact zlo|omega|exact zms)
  refine apn _ rfl rfl (by simp only [J3,V.closed,Qn,and_self])
def KM:List AO:=[mv 5 0,nk 6 5,fa 7 1 6,ld 8 1 7,mv 9 0,nk 10 9,fa 11 0 10,ld 12 1 11,ln 13 12,bn 14 .geq 8 13]
def KT:List (List Nat):=[[],[0],[1],[2],[],[4],[5],[6],[7],[3,8]]
def KG:OT:=.one 0 (.one 1 (.one 2 (.one 3 (.one 4 (.one 5 (.one 6 (.one 7 (.one 8 (.one 9 (.done))))))))))
def V6:OP:=.one 0 false [] (mv 5 0) (.one 1 false [] (nk 6 5) (.one 2 false [] (fa 7 1 6) (.one 3 false [] (ld 8 1 7) (.one 4 false [] (mv 9 0) (.one 5 false [] (nk 10 9) (.one 6 false [] (fa 11 0 10) (.one 7 false [] (ld 12 1 11) (.one 8 false [] (ln 13 12) (.one 9 false [] (bn 14 .geq 8 13) (.done))))))))))
theorem V9:okR (KM) KT [] KG = true:=by kernel_rfl
theorem V3:Ww (ris (KM) KT []) KG = V6:=by kernel_rfl
def KL (WV:Nat):List AO:=[mv 22 0,nk 23 22,fa 24 0 23,ld 25 1 24,mv 26 0,nk 27 26,fa 28 1 27,ld 29 1 28,bc 30 .sub 29 (V.int 1),ia 31 1 25 30,ld 32 1 31,mv 33 1,cl 34 WV [32,33],mv 4 34]
def KS:List (List Nat):=[[],[0],[1],[2],[],[4],[5],[6],[7],[3,8],[9],[],[10,11],[12,12,0,1,2,3,4,5,6,7,8,9,10,11,12]]
def KF:OT:=.one 0 (.one 1 (.one 2 (.one 3 (.one 4 (.one 5 (.one 6 (.one 7 (.one 8 (.one 9 (.one 10 (.one 11 (.one 12 (.one 13 (.done))))))))))))))
def V5 (WV:Nat):OP:=.one 0 false [] (mv 22 0) (.one 1 false [] (nk 23 22) (.one 2 false [] (fa 24 0 23) (.one 3 false [] (ld 25 1 24) (.one 4 false [] (mv 26 0) (.one 5 false [] (nk 27 26) (.one 6 false [] (fa 28 1 27) (.one 7 false [] (ld 29 1 28) (.one 8 false [] (bc 30 .sub 29 (V.int 1)) (.one 9 false [] (ia 31 1 25 30) (.one 10 false [] (ld 32 1 31) (.one 11 false [] (mv 33 1) (.one 12 false [] (cl 34 WV [32,33]) (.one 13 false [12] (mv 4 34) (.done))))))))))))))
theorem V8 (WV:Nat):okR (KL WV) KS [] KF = true:=by kernel_rfl
theorem V2 (WV:Nat):Ww (ris (KL WV) KS []) KF = V5 WV:=by kernel_rfl def c_make_Dice__Next (WV:Nat):AC:=Qo [0,1] (.reg [mc 4 (V.int 0)]) (Qo [0,1] (Qo [0,1,14] (ach [] KG (V6) (KM) KT) (.cond (.t 14) (Qo [4] (.reg [mc 4 (V.int 0)]) (.ret)) (.skip))) (Qo [0,1] (.reg [mv 15 0,nk 16 15,fa 17 1 16,ld 18 1 17,bc 19 .add 18 (V.int 1),nk 20 15,fa 21 1 20,xs 1 21 19]) (Qo [4] (ach [] KF (V5 WV) (KL WV) KS) (.ret)))) def r_make_Dice__Next:List X0:=[.tmp 4]
def Y3 (Γ:Env) (f:Nat):Prop:=∀ (l:List Int) (k:Nat) (n:Int) (hl:l.length≤400) (hk:k≤l.length),EvD Γ f [V.int n] (J3 l k) (V.int (Yz l k n).1) (J3 l (Yz l k n).2)
theorem abW {Γ:Env} {f WV:Nat} (h:Has Γ.P f 35 (c_make_Dice__Next WV) r_make_Dice__Next) (af2:abh Γ WV):Y3 Γ f:=by
  intro l k n hl hk
  refine UU h (by simp) (by simp only [V.closed,Qn,V.noSl,Jx,and_self,and_true,true_and]) (by first|exact JP _ _|simp only [V.closed,Qn,and_self,and_true,true_and]) (by first|exact JP _ _|simp only [V.closed,Qn,and_self,and_true,true_and]) fun C hC hm=>?_
  subst hC
  unfold c_make_Dice__Next
  by_cases h1:k < l.length
  · have e1:decide ((k:Int)≥(((l.map V.int).length:Nat):Int)) = false:=by simp;omega
    have hget:l[k]? = some (l.getD k 0):=by simp [List.getD_eq_getElem?_getD,List.getElem?_eq_getElem h1]
    have hw:=Jq (k:=k) (by omega)
    have hw2:IntKind.i64.wrap (((k + 1:Nat):Int) - 1) = (k:Int):=by rw [WW (by omega) (by omega)];omega
    have hn:Yz l k n = (anO (l.getD k 0) n,k + 1):=by rw [Yz,if_pos h1]
    rw [hn]
    repeat' (first|refine Qb fun K' hK=>?_|refine Qe fun K' hK=>?_|refine Ql 10 (fun _=>true) rfl (V9) (V3) fun K' hK=>?_|refine Qm 10 (fun _=>true) rfl (V9) (V3) fun K' hK=>?_|refine Ql 14 (fun _=>true) rfl (V8 _) (V2 _) fun K' hK=>?_|refine Qm 14 (fun _=>true) rfl (V8 _) (V2 _) fun K' hK=>?_|refine Qc ?_|refine Qd ?_|refine Qa ?_|((first|refine Qg ⟨_,rfl,fun hc=>?_,fun hc=>?_⟩|refine Qs (fun hc=>?_) (fun hc=>?_)|refine Qt (fun hc=>?_) (fun hc=>?_))<;>first|(cases hc;done)|((try simp only [znz] at hc);first|exact znf|skip))|refine Qi ?_|refine Qf ?_|simp (maxSteps:=1000000) only [go_sem,J3,e1,hw,hw2,Int.toNat_natCast,List.getElem?_map,hget,V6,V5]|(refine hK _ ?_;clear hK K')|apply And.intro|((first|apply Qv|apply Jm);(focus first|exact (af2 _ _).b))|exact zlo|omega|exact zms)
    all_goals (refine xj _ rfl rfl (by simp only [V.closed,Qn,and_self,and_true,true_and]) ?_;simp only [go_sem])
  · have e1:decide ((k:Int)≥(((l.map V.int).length:Nat):Int)) = true:=by simp;omega
    have hn:Yz l k n = (0,k):=by rw [Yz,if_neg h1]
    rw [hn]
    repeat' (first|refine Qb fun K' hK=>?_|refine Qe fun K' hK=>?_|refine Ql 10 (fun _=>true) rfl (V9) (V3) fun K' hK=>?_|refine Qm 10 (fun _=>true) rfl (V9) (V3) fun K' hK=>?_|refine Ql 14 (fun _=>true) rfl (V8 _) (V2 _) fun K' hK=>?_|refine Qm 14 (fun _=>true) rfl (V8 _) (V2 _) fun K' hK=>?_|refine Qc ?_|refine Qd ?_|refine Qa ?_|((first|refine Qg ⟨_,rfl,fun hc=>?_,fun hc=>?_⟩|refine Qs (fun hc=>?_) (fun hc=>?_)|refine Qt (fun hc=>?_) (fun hc=>?_))<;>first|(cases hc;done)|((try simp only [znz] at hc);first|exact znf|skip))|refine Qi ?_|refine Qf ?_|simp (maxSteps:=1000000) only [go_sem,J3,e1,V6,V5]|(refine hK _ ?_;clear hK K')|apply And.intro|((first|apply Qv|apply Jm);(focus first|exact (af2 _ _).b))|exact zlo|omega|exact zms)
    all_goals (refine xj _ rfl rfl (by simp only [V.closed,Qn,and_self,and_true,true_and]) ?_;simp only [go_sem])
def ofD (l:List Int) (k:Nat) (xs:List Int):Int×Nat:=(xs.getD (Yz l k xs.length).1.toNat 0,(Yz l k xs.length).2)
theorem alG {l:List Int} {k:Nat} {xs:List Int} (h:xs≠[]) (h2:xs.length < 2 ^ 62):(ofD l k xs).1∈xs:=by
  have h1:1≤xs.length:=by cases xs with|nil=>exact (h rfl).elim|cons _ _=>simp
  have:=Xr (l:=l) (k:=k) (n:=xs.length) (by omega) (by omega)
  have hk:(Yz l k xs.length).1.toNat < xs.length:=by omega
  unfold ofD
  simp only [List.getD_eq_getElem?_getD,List.getElem?_eq_getElem hk,Option.getD_some]
  exact List.getElem_mem hk
theorem ajj {l:List Int} {k:Nat} {xs:List Int} (hk:k≤l.length):(ofD l k xs).2≤l.length:=Wu hk
def yJ (Qr:Nat):AC:=Qo [0,1] (.reg [mc 4 (V.int 0)]) (Qo [4] (.reg [mv 5 1,mv 6 0,mv 7 1,ln 8 7,cl 9 Qr [6,8],ia 10 1 5 9,ld 11 1 10,mv 4 11]) (.ret)) def r_make_Dice__Of:List X0:=[.tmp 4]
def Uv (Γ:Env) (f:Nat):Prop:=∀ (l:List Int) (k:Nat) (xs:List Int) (hl:l.length≤400) (hk:k≤l.length) (hx:1≤xs.length) (hx2:xs.length < 2 ^ 62),EvD Γ f [.sl 1 (xs.map V.int)] (J3 l k) (V.int (ofD l k xs).1) (J3 l (ofD l k xs).2)
theorem adQ {Γ:Env} {f Qr:Nat} (h:Has Γ.P f 12 (yJ Qr) r_make_Dice__Of) (Qk:Y3 Γ Qr):Uv Γ f:=by
  intro l k xs hl hk hx hx2
  refine UU h (by simp) (by simp only [V.closed,Qn,V.noSl,Jx,and_self,and_true,true_and]) (by first|exact JP _ _|simp only [V.closed,Qn,and_self,and_true,true_and]) (by first|exact JP _ _|simp only [V.closed,Qn,and_self,and_true,true_and]) fun C hC hm=>?_
  subst hC
  unfold yJ
  have hr:=Xr (l:=l) (k:=k) (n:=xs.length) (by omega) (by omega)
  have hget:xs[(Yz l k xs.length).1.toNat]? = some (ofD l k xs).1:=by
    have hk:(Yz l k xs.length).1.toNat < xs.length:=by omega
    simp [ofD,List.getD_eq_getElem?_getD,List.getElem?_eq_getElem hk]
  have hn:=Qk l k xs.length hl hk
  have e2:J3 l (ofD l k xs).2 = J3 l (Yz l k xs.length).2:=rfl
  rw [e2]
  simp only [J3] at hn
  repeat' (first|refine Qb fun K' hK=>?_|refine Qe fun K' hK=>?_|refine Qc ?_|refine Qd ?_|refine Qa ?_|((first|refine Qg ⟨_,rfl,fun hc=>?_,fun hc=>?_⟩|refine Qs (fun hc=>?_) (fun hc=>?_)|refine Qt (fun hc=>?_) (fun hc=>?_))<;>first|(cases hc;done)|((try simp only [znz] at hc);first|exact znf|skip))|refine Qi ?_|refine Qf ?_|simp (maxSteps:=1000000) only [go_sem,J3,List.length_map,List.getElem?_map,hget]|(refine hK _ ?_;clear hK K')|apply And.intro|(apply XQ;(focus exact rfl);(focus first|exact hn|exact (Qk _ _ _ zsd zsd));(focus exact rfl);(focus exact rfl))|exact zlo|omega|exact zms)
  refine xj _ rfl rfl (by simp only [V.closed,Qn,and_self,and_true,true_and]) ?_;simp only [go_sem]
def x8 (a:Int):List Int :=
  if a = 5∨a = 6∨a = 10∨a = 11 then [2048,1024,512,3072,1023,4096,16384]
  else if a = 7∨a = 12 then [256,160,224,384,521]
  else if a = 9 then [65,44,87]
  else if a = 13 then [768,512,1024]
  else if a = 14 then [128,40]
  else if a = 15 then [168,112]
  else if a = 16∨a = 17 then [128,256]
  else []
def acu (l:List Int) (k:Nat) (a:Int):Int×Nat:=if x8 a = [] then (0,k) else ofD l k (x8 a)
def abe (QL:Nat):AC:=Qo [0,1] (.reg [mc 4 (V.int 0)]) (Qo [] (Qo [0,5] (.reg [mv 5 1]) (.block 0 (Qo [0,5,6] (Qo [0,5,6] (.reg [bc 7 .eql 5 (V.int 5),mv 6 7]) (.cond (.t 6) (.skip) (Qo [0,5,6] (.reg [bc 8 .eql 5 (V.int 6),mv 6 8]) (.cond (.t 6) (.skip) (Qo [0,5,6] (.reg [bc 9 .eql 5 (V.int 10),mv 6 9]) (.cond (.t 6) (.skip) (.reg [bc 10 .eql 5 (V.int 11),mv 6 10]))))))) (.cond (.t 6) (Qo [4] (.reg [mv 11 0,xo 12 (.bslice 7 1 false [(.int .i64 0)] [(0,(.c (V.int 2048))),(1,(.c (V.int 1024))),(2,(.c (V.int 512))),(3,(.c (V.int 3072))),(4,(.c (V.int 1023))),(5,(.c (V.int 4096))),(6,(.c (V.int 16384)))]),cl 13 QL [11,12],mv 4 13]) (.ret)) (Qo [0,5,14] (Qo [0,5,14] (.reg [bc 15 .eql 5 (V.int 7),mv 14 15]) (.cond (.t 14) (.skip) (.reg [bc 16 .eql 5 (V.int 12),mv 14 16]))) (.cond (.t 14) (Qo [4] (.reg [mv 17 0,xo 18 (.bslice 5 1 false [(.int .i64 0)] [(0,(.c (V.int 256))),(1,(.c (V.int 160))),(2,(.c (V.int 224))),(3,(.c (V.int 384))),(4,(.c (V.int 521)))]),cl 19 QL [17,18],mv 4 19]) (.ret)) (Qo [0,5,20] (.reg [bc 21 .eql 5 (V.int 9),mv 20 21]) (.cond (.t 20) (Qo [4] (.reg [mv 22 0,xo 23 (.bslice 3 1 false [(.int .i64 0)] [(0,(.c (V.int 65))),(1,(.c (V.int 44))),(2,(.c (V.int 87)))]),cl 24 QL [22,23],mv 4 24]) (.ret)) (Qo [0,5,25] (.reg [bc 26 .eql 5 (V.int 13),mv 25 26]) (.cond (.t 25) (Qo [4] (.reg [mv 27 0,xo 28 (.bslice 3 1 false [(.int .i64 0)] [(0,(.c (V.int 768))),(1,(.c (V.int 512))),(2,(.c (V.int 1024)))]),cl 29 QL [27,28],mv 4 29]) (.ret)) (Qo [0,5,30] (.reg [bc 31 .eql 5 (V.int 14),mv 30 31]) (.cond (.t 30) (Qo [4] (.reg [mv 32 0,xo 33 (.bslice 2 1 false [(.int .i64 0)] [(0,(.c (V.int 128))),(1,(.c (V.int 40)))]),cl 34 QL [32,33],mv 4 34]) (.ret)) (Qo [0,5,35] (.reg [bc 36 .eql 5 (V.int 15),mv 35 36]) (.cond (.t 35) (Qo [4] (.reg [mv 37 0,xo 38 (.bslice 2 1 false [(.int .i64 0)] [(0,(.c (V.int 168))),(1,(.c (V.int 112)))]),cl 39 QL [37,38],mv 4 39]) (.ret)) (Qo [0,40] (Qo [0,5,40] (.reg [bc 41 .eql 5 (V.int 16),mv 40 41]) (.cond (.t 40) (.skip) (.reg [bc 42 .eql 5 (V.int 17),mv 40 42]))) (.cond (.t 40) (Qo [4] (.reg [mv 43 0,xo 44 (.bslice 2 1 false [(.int .i64 0)] [(0,(.c (V.int 128))),(1,(.c (V.int 256)))]),cl 45 QL [43,44],mv 4 45]) (.ret)) (.skip))))))))))))))))) (Qo [4] (.reg [mc 4 (V.int 0)]) (.ret))) def r_make_size:List X0:=[.tmp 4]
def vW (Γ:Env) (f:Nat):Prop:=∀ (l:List Int) (k:Nat) (a:Int) (hl:l.length≤400) (hk:k≤l.length),EvD Γ f [V.int a] (J3 l k) (V.int (acu l k a).1) (J3 l (acu l k a).2)
theorem ahN {Γ:Env} {f QL:Nat} (h:Has Γ.P f 46 (abe QL) r_make_size) (QG:Uv Γ QL):vW Γ f:=by
  intro l k a hl hk
  refine UU h (by simp) (by simp only [V.closed,Qn,V.noSl,Jx,and_self,and_true,true_and]) (by first|exact JP _ _|simp only [V.closed,Qn,and_self,and_true,true_and]) (by first|exact JP _ _|simp only [V.closed,Qn,and_self,and_true,true_and]) fun C hC hm=>?_
  subst hC
  unfold abe
  have o1:=QG l k [2048,1024,512,3072,1023,4096,16384] hl hk (by simp) (by simp)
  have o2:=QG l k [256,160,224,384,521] hl hk (by simp) (by simp)
  have o3:=QG l k [65,44,87] hl hk (by simp) (by simp)
  have o4:=QG l k [768,512,1024] hl hk (by simp) (by simp)
  have o5:=QG l k [128,40] hl hk (by simp) (by simp)
  have o6:=QG l k [168,112] hl hk (by simp) (by simp)
  have o7:=QG l k [128,256] hl hk (by simp) (by simp)
  simp only [J3] at o1 o2 o3 o4 o5 o6 o7
  repeat' (first|refine Qb fun K' hK=>?_|refine Qe fun K' hK=>?_|refine Qc ?_|refine Qd ?_|refine Qa ?_|((first|refine Qg ⟨_,rfl,fun hc=>?_,fun hc=>?_⟩|refine Qs (fun hc=>?_) (fun hc=>?_)|refine Qt (fun hc=>?_) (fun hc=>?_))<;>first|(cases hc;done)|((try simp only [znz] at hc);first|exact znf|skip))|refine Qi ?_|refine Qf ?_|simp (maxSteps:=1000000) only [go_sem,J3]|(refine hK _ ?_;clear hK K')|apply And.intro|(apply XQ;(focus exact rfl);(focus first|exact o1|exact o2|exact o3|exact o4|exact o5|exact o6|exact o7|exact (QG _ _ _ zsd zsd zsd zsd));(focus exact rfl);(focus exact rfl))|exact zlo|omega|exact zms)
  all_goals (first|subst hc|skip)
  all_goals first
    | (have es:acu l k 5 = ofD l k [2048,1024,512,3072,1023,4096,16384]:=rfl
       rw [es];refine xj _ rfl rfl (by simp only [V.closed,Qn,and_self,and_true,true_and]) ?_;simp only [go_sem];done)
    | (simp only [show ∀ x,acu l k x = if x8 x = [] then (0,k) else ofD l k (x8 x) from fun _=>rfl]
       simp only [x8,Int.reduceEq,reduceIte,or_self,or_true,or_false,true_or,false_or,reduceCtorEq, *]
       refine xj _ rfl rfl (by simp only [V.closed,Qn,and_self,and_true,true_and]) ?_;simp only [go_sem];done)
def an8 (l:List Int) (k:Nat):(Int×Int)×Nat:=((1 + (Yz l k 22).1,(acu l (Yz l k 22).2 (1 + (Yz l k 22).1)).1),(acu l (Yz l k 22).2 (1 + (Yz l k 22).1)).2)
def ac6 (Qr ww:Nat):AC:=Qo [0,2] (.reg [xo 2 (.alloc [.val (.int .i64 0),.val (.int .i64 0)])]) (Qo [0,2,3] (.reg [mv 4 0,xo 5 (.call Qr [(.t 4),(.c (V.int 22))]),xo 6 (.bin .add (.c (V.int 1)) (.t 5)),mv 3 6]) (Qo [2] (.reg [mv 7 3,mv 8 0,mv 9 3,cl 10 ww [8,9],xo 11 (.build [(.int .i64 0),(.int .i64 0)] [(0,1,(.t 7)),(1,1,(.t 10))]),xs 2 2 11]) (.ret))) def r_make_Use:List X0:=[.cell 2 true 2]
def abg (Γ:Env) (f:Nat):Prop:=∀ (l:List Int) (k:Nat) (hl:l.length≤400) (hk:k≤l.length),EvD Γ f [] (J3 l k) (.agg [V.int (an8 l k).1.1,V.int (an8 l k).1.2]) (J3 l (an8 l k).2)
theorem aiH {Γ:Env} {f Qr ww:Nat} (h:Has Γ.P f 12 (ac6 Qr ww) r_make_Use) (Qk:Y3 Γ Qr) (aeI:vW Γ ww):abg Γ f:=by
  intro l k hl hk
  refine UU h (by simp) (by simp only [V.closed,Qn,V.noSl,Jx,and_self,and_true,true_and]) (by first|exact JP _ _|simp only [V.closed,Qn,and_self,and_true,true_and]) (by first|exact JP _ _|simp only [V.closed,Qn,and_self,and_true,true_and]) fun C hC hm=>?_
  subst hC
  unfold ac6
  have hr:=Xr (l:=l) (k:=k) (n:=22) (by omega) (by omega)
  have hle:=Wu (n:=22) hk
  have hw:IntKind.i64.wrap (1 + (Yz l k 22).1) = 1 + (Yz l k 22).1:=WW (by omega) (by omega)
  have n1:=Qk l k 22 hl hk
  have n2:=aeI l (Yz l k 22).2 (1 + (Yz l k 22).1) hl hle
  simp only [J3] at n1 n2
  repeat' (first|refine Qb fun K' hK=>?_|refine Qe fun K' hK=>?_|refine Qc ?_|refine Qd ?_|refine Qa ?_|((first|refine Qg ⟨_,rfl,fun hc=>?_,fun hc=>?_⟩|refine Qs (fun hc=>?_) (fun hc=>?_)|refine Qt (fun hc=>?_) (fun hc=>?_))<;>first|(cases hc;done)|((try simp only [znz] at hc);first|exact znf|skip))|refine Qi ?_|refine Qf ?_|simp (maxSteps:=1000000) only [go_sem,J3,hw]|(refine hK _ ?_;clear hK K')|apply And.intro|(apply XQ;(focus exact rfl);(focus first|exact n1|exact n2|exact (Qk _ _ _ zsd zsd)|exact (aeI _ _ _ zsd zsd));(focus exact rfl);(focus exact rfl))|exact zlo|omega|exact zms)
  refine xj _ rfl rfl (by simp only [V.closed,Qn,and_self,and_true,true_and]) ?_;simp only [go_sem]
  simp only [an8,and_self]
end Av
end
section
set_option linter.unusedSimpArgs false
set_option linter.unusedVariables false
set_option maxRecDepth 10000
set_option maxHeartbeats 4000000
namespace Av
open Go
attribute [local irreducible] AWp WY Vp Vq awS awC V1 awQ Uh Q9 YQ VZ awR YT awB okR Ww ris
def j0 (Qr:Nat):AC:=Qo [0,1] (.reg [mc 4 (V.bool false)]) (Qo [4] (.reg [mv 5 0,mv 6 1,cl 7 Qr [5,6],mv 8 1,bc 9 .sub 8 (V.int 1),bn 10 .eql 7 9,mv 4 10]) (.ret)) def r_make_Dice__One:List X0:=[.tmp 4]
def VX (Γ:Env) (f:Nat):Prop:=∀ (l:List Int) (k:Nat) (n:Int) (hl:l.length≤400) (hk:k≤l.length) (h1:1≤n) (h2:n < 2 ^ 62),EvD Γ f [V.int n] (J3 l k) (V.bool ((Yz l k n).1 == n - 1)) (J3 l (Yz l k n).2)
theorem ac2 {Γ:Env} {f Qr:Nat} (h:Has Γ.P f 11 (j0 Qr) r_make_Dice__One) (Qk:Y3 Γ Qr):VX Γ f:=by
  intro l k n hl hk h1 h2
  refine UU h (by simp) (by simp only [V.closed,Qn,V.noSl,Jx,and_self,and_true,true_and]) (by first|exact JP _ _|simp only [V.closed,Qn,and_self,and_true,true_and]) (by first|exact JP _ _|simp only [V.closed,Qn,and_self,and_true,true_and]) fun C hC hm=>?_
  subst hC
  unfold j0
  have hn:=Qk l k n hl hk
  have hw:IntKind.i64.wrap (n - 1) = n - 1:=WW (by omega) (by omega)
  simp only [J3] at hn
  repeat' (first|refine Qb fun K' hK=>?_|refine Qe fun K' hK=>?_|refine Qc ?_|refine Qd ?_|refine Qa ?_|((first|refine Qg ⟨_,rfl,fun hc=>?_,fun hc=>?_⟩|refine Qs (fun hc=>?_) (fun hc=>?_)|refine Qt (fun hc=>?_) (fun hc=>?_))<;>first|(cases hc;done)|((try simp only [znz] at hc);first|exact znf|skip))|refine Qi ?_|refine Qf ?_|simp (maxSteps:=1000000) only [go_sem,J3,hw]|(refine hK _ ?_;clear hK K')|apply And.intro|(apply XQ;(focus exact rfl);(focus first|exact hn|exact (Qk _ _ _ zsd zsd));(focus exact rfl);(focus exact rfl))|exact zlo|omega|exact zms)
  refine xj _ rfl rfl (by simp only [V.closed,Qn,and_self,and_true,true_and]) ?_;simp only [go_sem]
def aci (l:List Int) (k:Nat) (xs:List (List UInt8)):List UInt8×Nat:=(xs.getD (Yz l k xs.length).1.toNat [],(Yz l k xs.length).2)
theorem aeb {l:List Int} {k:Nat} {xs:List (List UInt8)} (h1:1≤xs.length) (h2:xs.length < 2 ^ 62):(aci l k xs).1∈xs:=by
  have:=Xr (l:=l) (k:=k) (n:=xs.length) (by omega) (by omega)
  have hk:(Yz l k xs.length).1.toNat < xs.length:=by omega
  unfold aci
  simp only [List.getD_eq_getElem?_getD,List.getElem?_eq_getElem hk,Option.getD_some]
  exact List.getElem_mem hk
theorem agi {l:List Int} {k:Nat} {xs:List (List UInt8)} (hk:k≤l.length):(aci l k xs).2≤l.length:=Wu hk
def jl (Qr:Nat):AC:=Qo [0,1] (.reg [mc 4 (V.str [])]) (Qo [4] (.reg [mv 5 1,mv 6 0,mv 7 1,ln 8 7,cl 9 Qr [6,8],ia 10 1 5 9,ld 11 1 10,mv 4 11]) (.ret)) def r_make_Dice__Word:List X0:=[.tmp 4]
def VE (Γ:Env) (f:Nat):Prop:=∀ (l:List Int) (k:Nat) (xs:List (List UInt8)) (hl:l.length≤400) (hk:k≤l.length) (hx:1≤xs.length) (hx2:xs.length < 2 ^ 62),EvD Γ f [.sl 1 (xs.map V.str)] (J3 l k) (V.str (aci l k xs).1) (J3 l (aci l k xs).2)
theorem abV {Γ:Env} {f Qr:Nat} (h:Has Γ.P f 12 (jl Qr) r_make_Dice__Word) (Qk:Y3 Γ Qr):VE Γ f:=by
  intro l k xs hl hk hx hx2
  refine UU h (by simp) (by simp only [V.closed,Qn,V.noSl,Jx,and_self,and_true,true_and]) (by first|exact JP _ _|simp only [V.closed,Qn,and_self,and_true,true_and]) (by first|exact JP _ _|simp only [V.closed,Qn,and_self,and_true,true_and]) fun C hC hm=>?_
  subst hC
  unfold jl
  have hr:=Xr (l:=l) (k:=k) (n:=xs.length) (by omega) (by omega)
  have hget:xs[(Yz l k xs.length).1.toNat]? = some (aci l k xs).1:=by
    have hk:(Yz l k xs.length).1.toNat < xs.length:=by omega
    simp [aci,List.getD_eq_getElem?_getD,List.getElem?_eq_getElem hk]
  have hn:=Qk l k xs.length hl hk
  have e2:J3 l (aci l k xs).2 = J3 l (Yz l k xs.length).2:=rfl
  rw [e2]
  simp only [J3] at hn
  repeat' (first|refine Qb fun K' hK=>?_|refine Qe fun K' hK=>?_|refine Qc ?_|refine Qd ?_|refine Qa ?_|((first|refine Qg ⟨_,rfl,fun hc=>?_,fun hc=>?_⟩|refine Qs (fun hc=>?_) (fun hc=>?_)|refine Qt (fun hc=>?_) (fun hc=>?_))<;>first|(cases hc;done)|((try simp only [znz] at hc);first|exact znf|skip))|refine Qi ?_|refine Qf ?_|simp (maxSteps:=1000000) only [go_sem,J3,List.length_map,List.getElem?_map,hget]|(refine hK _ ?_;clear hK K')|apply And.intro|(apply XQ;(focus exact rfl);(focus first|exact hn|exact (Qk _ _ _ zsd zsd));(focus exact rfl);(focus exact rfl))|exact zlo|omega|exact zms)
  refine xj _ rfl rfl (by simp only [V.closed,Qn,and_self,and_true,true_and]) ?_;simp only [go_sem]
def anN:List (List UInt8):=[[101,99,100,104,101],[118,51],[104,105,103,104],[114,115,97],[97,101,97,100]]
end Av
end
section
set_option linter.unusedSimpArgs false
set_option linter.unusedVariables false
set_option maxRecDepth 10000
set_option maxHeartbeats 4000000
namespace Av
open Go
attribute [local irreducible] AWp WY Vp Vq awS awC V1 awQ Uh Q9 YQ VZ awR YT awB okR Ww ris
theorem aod (s:List UInt8):(apS s).2 = (Uk 43 s).all ajp:=by
  unfold apS;split
  · rename_i h;rw [h]
  · rename_i h;simpa using h
structure aaC (s:List UInt8):Prop where
  colon:(58:UInt8) ∉ s
  known:(Uk 43 s).all ajp = true
  head:∃ c r,s = c :: r∧c≠45∧c≠33∧c≠43∧c≠64
def aiv (s:List UInt8):Bool:=!s.contains 58 && (Uk 43 s).all ajp && (match s with|c :: _=>c != 45 && c != 33 && c != 43 && c != 64|[]=>false)
theorem alP {s:List UInt8} (h:aiv s = true):aaC s:=by
  simp only [aiv,Bool.and_eq_true,Bool.not_eq_true'] at h
  refine ⟨by simpa using h.1.1,h.1.2,?_⟩
  have h3:=h.2
  cases s with
  | nil=>simp at h3
  | cons c r=>simp at h3;exact ⟨c,r,rfl,h3.1.1.1,h3.1.1.2,h3.1.2,h3.2⟩
theorem alN:∀ x∈anN,aiv x = true:=by decide
theorem aaC.join {s t:List UInt8} (hs:aaC s) (ht:t∈anN):aaC (s++[43]++t):=by
  have h2:=alP (alN t ht)
  refine ⟨?_,?_,?_⟩
  · simp only [List.mem_append,List.mem_singleton,not_or];exact ⟨⟨hs.colon,by decide⟩,h2.colon⟩
  · rw [aco,List.all_append,hs.known,h2.known];rfl
  · obtain ⟨c,r,rfl,h⟩:=hs.head
    exact ⟨c,r++[43]++t,by simp,h⟩
theorem aaC.sign {s:List UInt8} (h:aaC s):aob s = (0,s):=by
  obtain ⟨c,r,rfl,h1,h2,h3,_⟩:=h.head
  rw [aob,if_neg (by simp [h1,h2,h3])]
theorem aaC.ne {s:List UInt8} (h:aaC s):(s == apR) = false:=by
  obtain ⟨c,r,rfl,_,_,_,h4⟩:=h.head
  simp [apR,h4]
theorem aaC.okW {s:List UInt8} (h:aaC s):wordOk s = true:=by rw [Av.wordOk,h.sign,aod,h.known,Bool.or_true]
structure ajT (s:List UInt8) (n:Nat):Prop where
  few:s≠[]→(Uk 58 s).length≤n
  ok:s≠[]→∀ w∈Uk 58 s,wordOk w = true
theorem ajT.app {s t:List UInt8} {n m:Nat} (hs:ajT s n) (ht:ajT t m) (h1:s≠[]) (h2:t≠[]):ajT (s++[58]++t) (n + m):=by
  refine ⟨fun _=>?_,fun _ x hx=>?_⟩
  · have:=hs.few h1;have:=ht.few h2;rw [aco];simp;omega
  · rw [aco] at hx
    rcases List.mem_append.1 hx with hx|hx
    · exact hs.ok h1 x hx
    · exact ht.ok h2 x hx
end Av
end
section
namespace Av
open Go
end Av
end
section
set_option linter.unusedSimpArgs false
set_option linter.unusedVariables false
set_option maxRecDepth 10000
set_option maxHeartbeats 4000000
namespace Av
open Go
attribute [local irreducible] AWp WY Vp Vq awS awC V1 awQ Uh Q9 YQ VZ awR YT awB okR Ww ris
end Av
end
section
set_option linter.unusedSimpArgs false
set_option linter.unusedVariables false
set_option maxRecDepth 10000
set_option maxHeartbeats 4000000
namespace Av
open Go
attribute [local irreducible] AWp WY Vp Vq awS awC V1 awQ Uh Q9 YQ VZ awR YT awB okR Ww ris
theorem ahq (c:UInt8):∀ (r:List (List UInt8)) (x:List UInt8),[c].intercalate (x :: r) = x++(r.map fun y=>c :: y).flatten
  | [],x=>by simp [List.intercalate]
  | y :: r,x=>by
    have:=ahq c r y
    simp only [List.intercalate,List.intersperse_cons_cons,List.flatten_cons] at this ⊢
    rw [this];simp
def vT (Γ:Env) (f:Nat):Prop:=∀ (xs:List (List UInt8)) (sep:List UInt8) (hn:xs.length < 2 ^ 40) (hl:(sep.intercalate xs).length < 2 ^ 40),EvN Γ f [.sl 1 (xs.map V.str),V.str sep] (V.str (sep.intercalate xs))
end Av
end
