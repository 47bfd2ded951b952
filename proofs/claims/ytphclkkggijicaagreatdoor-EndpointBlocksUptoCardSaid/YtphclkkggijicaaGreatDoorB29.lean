/- B29 -/
import Derived.Test.YtphclkkggijicaaGreatDoorB28
import Derived.Test.YtphclkkggijicaaGreatDoorB12
set_option linter.unusedVariables false
set_option linter.unusedSimpArgs false
noncomputable section
set_option maxRecDepth 10000
set_option maxHeartbeats 4000000
namespace Av
open Go
attribute [local irreducible] AWp W7 Kx jy awS awC vE awQ aay QP W6 vu awR Vn awB okR jx ris
structure Qq.Sm (x:Qq):Prop where
 hl:x.words.length < 2 ^ 28
 hs:∀ s∈x.words,s.length < 2 ^ 30
def itB (x:Qq):PIt:=⟨x.w0,x.words.drop 1,x.line⟩
theorem amt {x:Qq} (h:x.Sm):(itB x).Sm:=⟨by
 show (x.words.drop 1).length < _
 have:=h.hl
 rw [kO];omega,fun s hs=>h.hs s (List.mem_of_mem_drop hs)⟩
def ahP (x:Qq):Bool:=x.op || !decide (x.w0∈Ym)
def twB:List Qq→List Qq→Option Qq
 | _,[]=>none
 | acc,x :: r=>if acc.any (fun y=>y.w0 == x.w0) = true then some x else twB (acc++[x]) r
def aoC (l:List Qq) (name:List UInt8) (st:List Qv):V :=
 match l.find? ahP with
 | some x=>vn x.line 17
 | none=>match twB [] l with
   | some x=>vn x.line 5
   | none=>wv (jR st (l.map itB) (agt name))
theorem adr (l:List Qq) (name:List UInt8) (st:List Qv):(aoC l name st).closed:=by
 unfold aoC
 repeat' split
 all_goals first|exact VW _ _|exact xz _
def aof (name:List UInt8) (x:Qq):Bool:=x.op && eqL eqS x.words [[115,101,114,118,101,114],name]
def adO (l:List Qq) (name:List UInt8) (st:List Qv):V :=
 if Va name st≠0 then vn 0 (Va name st) else
 match l.find? (aof name) with
 | some x=>aoC x.sub name st
 | none=>vn 0 4
theorem abz (l:List Qq) (name:List UInt8) (st:List Qv):(adO l name st).closed:=by
 unfold adO
 repeat' split
 all_goals first|exact VW _ _|exact adr _ _ _
theorem ahN {own:List Qq} (h:own.find? ahP = none):∀ x∈own,x.op = false∧x.w0∈Ym:=fun x hx=>by
 have:=List.find?_eq_none.1 h x hx
 simpa [ahP] using this
theorem ahO {own:List Qq} {k:Nat} {x:Qq} {r:List Qq} (hd:own.drop k = x :: r) (h:(own.take k).find? ahP = none):(ahP x = false→(own.take (k + 1)).find? ahP = none)∧(ahP x = true→own.find? ahP = some x):=by
 obtain ⟨hk,hget,hr⟩:=Qe hd
 refine ⟨fun hx=>?_,fun hx=>?_⟩
 ·rw [zB,hget,List.find?_append,h];simp [hx]
 ·rw [← zR k own,hd,List.find?_append,h];simp [hx]
theorem anu {x:Qq} (h:x.w0∈Ym):x.words≠[]:=fun e=>by
 rw [Qq.w0,e] at h;revert h;decide
theorem ams {o:Nat→Option Ob} {br:List Nat} {n:Nat} {acc:List PIt} {y:PIt} {vs:List (List UInt8)} (hv:vs = y.vals) (h:o n = some (.buf true 1 (vs.map V.str))) (hn:n ∉ br):VY o br none (acc.map PIt.v++[.agg [V.str y.word,.hd n 0 vs.length,V.int y.line]]) ((acc++[y]).map PIt.v):=by
 subst hv
 rw [zG]
 refine ag8 (ys:=[.agg [V.str y.word,.hd n 0 y.vals.length,V.int y.line]]) (zs:=[y.v]) ?_ acc
 refine ⟨?_,trivial⟩
 show QE _ _ _ [V.str y.word,.hd n 0 y.vals.length,V.int y.line] [V.str y.word,.sl 1 (y.vals.map V.str),V.int y.line]
 exact ⟨by simp [conv,V.str],qS h hn,by simp [conv,V.int],trivial⟩
def U6:=qd Proofs.Tryz.f67 [zhw 23,zhw 9,zhn 11,zhw 9]
def jh (Γ:Env) (f:Nat):Prop:=∀ (l:List Qq) (name:List UInt8) (st:List Qv) (hl:l.length < 2 ^ 27) (hb:∀ x∈l,x.Sm) (hk:st.length < 2 ^ 60) (hs:∀ x∈st,x.Sm),EvC Γ f [.sl 4 (l.map Qq.v),V.str name,.sl 6 (st.map Qv.v)] (aoC l name st)
theorem adT {Γ:Env} {f:Nat} (h:Has Γ.P f 96 U6.1.1.ac U6.1.2) (z0:yA Γ 126) (z1:je Γ 43) (z2:yB Γ 45):jh Γ f:=by
 intro l name st hl hb hk hs
 refine Qn h zsi (adr _ _ _) fun C hC hm=>?_
 subst hC
 simp only [U6,qd,DC.ac]
 have hm:C.m = 0:=by simpa using hm
 have hlo:(l.map Qq.v).length = l.length:=zh _
 rw [aoC]
 repeat' (first|(refine zsk ?_;intro K' hK)|(refine zrg ?_;intro K' hK)|refine zsp ?_|(refine zsc ?_ ?_<;>intro hc<;>first|exact znh|try simp only [znz] at hc)|simp (maxSteps:=1000000) only [go_sem]|(refine hK _ ?_;clear hK K')|apply zan|((first|apply QC|apply Qr);(focus first|exact (z0 _).b|exact (z1 _).b|exact (z2 _ _ _ zsd _ zsd zsd zsd).b))|exact zsq|fail)
 refine JD (ι:=Nat) (fun k=>k≤l.length∧(l.take k).find? ahP = none) (fun k=>stL [(0,.sl 4 (l.map Qq.v)),(1,V.str name),(2,.sl 6 (st.map Qv.v)),(6,.ptr 0 0),(9,.hd 1 0 0),(10,V.int k)] [.box true XN,.buf true 3 []]) (fun k=>l.length - k) 0 ⟨zw _,rfl⟩ (xI [0,3000] (by rw [hm];rfl) ⟨⟨_,rfl,fun h=>h,Yh _ _ _ _ _ _ _ _ _⟩,⟨_,rfl,fun h=>h,rfl,rfl⟩,trivial⟩) fun k hk3 K2 hL2=>?_
 obtain ⟨hk3,hno⟩:=hk3
 simp only [stL,XN]
 rcases hdo:l.drop k with _|⟨x,r⟩
 rotate_left
 ·obtain ⟨hk',hget,hr⟩:=Qe hdo
  have hwi:=Qd (k:=k) (by omega)
  have e3:decide ((k:Int) < ((l.length:Nat):Int)) = true:=by simp;omega
  obtain ⟨g1,g2⟩:=ahO hdo hno
  have hw0:=(z0 x).b
  have hkn:=(z1 x.w0).b
  rw [Qq.v_def,Qq.cells] at hw0
  rcases ho:x.op with _|_
  ·rw [ho] at hw0
   by_cases hx:x.w0∈Ym
   ·rw [zu hx] at hkn
    repeat' (first|(refine zsk ?_;intro K' hK)|(refine zrg ?_;intro K' hK)|refine zsp ?_|(refine zsc ?_ ?_<;>intro hc<;>first|exact znh|try simp only [znz] at hc)|simp (maxSteps:=1000000) only [go_sem,e3,hlo,hwi,Int.toNat_natCast,zq,hget,Qq.v_def,Qq.cells,ho]|(refine hK _ ?_;clear hK K')|apply zan|((first|apply QC|apply Qr);(focus first|exact hw0|exact hkn|exact (z0 _).b|exact (z1 _).b|exact (z2 _ _ _ zsd _ zsd zsd zsd).b))|exact zsq|fail)
    all_goals exact hL2 _ (k + 1) ⟨by omega,g1 (by rw [ahP,ho,zu hx];rfl)⟩ (by omega) (xI [0,1] (by rw [hm];rfl) ⟨⟨_,rfl,fun h=>h,Yh _ _ _ _ _ _ _ _ _⟩,⟨_,rfl,fun h=>h,rfl,rfl⟩,trivial⟩)
   ·rw [zv hx] at hkn
    rw [g2 (by rw [ahP,ho,zv hx];rfl)]
    simp only [vn,adF,QM.v,QM.cells,zl]
    repeat' (first|(refine zsk ?_;intro K' hK)|(refine zrg ?_;intro K' hK)|refine zsp ?_|(refine zsc ?_ ?_<;>intro hc<;>first|exact znh|try simp only [znz] at hc)|simp (maxSteps:=1000000) only [go_sem,e3,hlo,hwi,Int.toNat_natCast,zq,hget,Qq.v_def,Qq.cells,ho]|(refine hK _ ?_;clear hK K')|apply zan|((first|apply QC|apply Qr);(focus first|exact hw0|exact hkn|exact (z0 _).b|exact (z1 _).b|exact (z2 _ _ _ zsd _ zsd zsd zsd).b))|exact zsq|fail)
    all_goals exact zr
  ·rw [g2 (by rw [ahP,ho];rfl)]
   simp only [vn,adF,QM.v,QM.cells,zl]
   repeat' (first|(refine zsk ?_;intro K' hK)|(refine zrg ?_;intro K' hK)|refine zsp ?_|(refine zsc ?_ ?_<;>intro hc<;>first|exact znh|try simp only [znz] at hc)|simp (maxSteps:=1000000) only [go_sem,e3,hlo,hwi,Int.toNat_natCast,zq,hget,Qq.v_def,Qq.cells,ho]|(refine hK _ ?_;clear hK K')|apply zan|((first|apply QC|apply Qr);(focus first|exact hw0|exact hkn|exact (z0 _).b|exact (z1 _).b|exact (z2 _ _ _ zsd _ zsd zsd zsd).b))|exact zsq|fail)
   all_goals exact zr
 have hkl:=Qj hdo
 have e3:decide ((k:Int) < ((l.length:Nat):Int)) = false:=by simp;omega
 rw [zb hkl] at hno
 have hwd:=ahN hno
 rw [hno]
 simp only
 clear hL2
 repeat' (first|(refine zsk ?_;intro K' hK)|(refine zrg ?_;intro K' hK)|refine zsp ?_|(refine zsc ?_ ?_<;>intro hc<;>first|exact znh|try simp only [znz] at hc)|simp (maxSteps:=1000000) only [go_sem,e3,hlo]|(refine hK _ ?_;clear hK K')|apply zan|((first|apply QC|apply Qr);(focus first|exact (z0 _).b|exact (z1 _).b|exact (z2 _ _ _ zsd _ zsd zsd zsd).b))|exact zsq|fail)
 refine JD (ι:=Nat×List PIt) (fun q=>q.1≤l.length∧twB (l.take q.1) (l.drop q.1) = twB [] l∧q.2 = (l.take q.1).map itB) (fun q=>stL [(0,.sl 4 (l.map Qq.v)),(1,V.str name),(2,.sl 6 (st.map Qv.v)),(6,.ptr 0 0),(9,.hd 1 0 q.2.length),(11,V.int q.1)] [.box true XN,.buf true 3 (q.2.map PIt.v)]) (fun q=>l.length - q.1) (0,[]) ⟨zw _,rfl,rfl⟩ (xI [0,1] (by rw [hm];rfl) ⟨⟨_,rfl,fun h=>h,Yh _ _ _ _ _ _ _ _ _⟩,⟨_,rfl,fun h=>h,rfl,rfl⟩,trivial⟩) fun q hq3 K3 hL3=>?_
 clear e3 hkl hdo hk3 k
 obtain ⟨q,acc⟩:=q
 obtain ⟨hk3,hinv,hac⟩:=hq3
 simp only at hk3 hinv hac hL3 ⊢
 rcases hdo:l.drop q with _|⟨x,r⟩
 ·have hkl:=Qj hdo
  have hql:q = l.length:=by omega
  subst hql
  rw [zP] at hac
  subst hac
  refine ana (s1:=stL [(0,.sl 4 (l.map Qq.v)),(1,V.str name),(2,.sl 6 (st.map Qv.v)),(6,.ptr 0 0),(9,.sl 3 ((l.map itB).map PIt.v)),(11,V.int l.length)] [.box true XN]) (xI [0] (by rw [hm];rfl) ⟨⟨_,rfl,fun h=>h,Yh _ _ _ _ _ _ _ _ _⟩,trivial⟩) ?_
  simp only [stL,XN]
  have e3:decide (((l.length:Nat):Int) < ((l.length:Nat):Int)) = false:=by simp
  rw [hdo,twB] at hinv
  rw [← hinv]
  simp only
  have hmd:=(z2 name (l.map itB) st (by rw [zh];omega) (fun y hy=>by obtain ⟨z,hz,rfl⟩:=kl.1 hy;exact amt (hb z hz)) (fun y hy=>by obtain ⟨z,hz,rfl⟩:=kl.1 hy;exact (hwd z hz).2) hk hs).b
  obtain ⟨e',n',k',hmv⟩:=ajA (jR st (l.map itB) (agt name))
  rw [hmv] at hmd ⊢
  simp only [QM.v,QM.cells] at hmd ⊢
  repeat' (first|(refine zsk ?_;intro K' hK)|(refine zrg ?_;intro K' hK)|refine zsp ?_|(refine zsc ?_ ?_<;>intro hc<;>first|exact znh|try simp only [znz] at hc)|simp (maxSteps:=1000000) only [go_sem,e3,hlo]|(refine hK _ ?_;clear hK K')|apply zan|((first|apply QC|apply Qr);(focus first|exact hmd|exact (z0 _).b|exact (z1 _).b|exact (z2 _ _ _ zsd _ zsd zsd zsd).b))|exact zsq|fail)
  all_goals exact zr
 obtain ⟨hk',hget,hr⟩:=Qe hdo
 have hwi:=Qd (k:=q) (by omega)
 have e3:decide ((q:Int) < ((l.length:Nat):Int)) = true:=by simp;omega
 have hxm:=zj hget
 rw [hdo,twB] at hinv
 have hwx:=(z0 x).b
 rw [Qq.v_def,Qq.cells] at hwx
 simp only [stL,XN]
 repeat' (first|(refine zsk ?_;intro K' hK)|(refine zrg ?_;intro K' hK)|refine zsp ?_|(refine zsc ?_ ?_<;>intro hc<;>first|exact znh|try simp only [znz] at hc)|simp (maxSteps:=1000000) only [go_sem,e3,hlo,hwi]|(refine hK _ ?_;clear hK K')|apply zan|((first|apply QC|apply Qr);(focus first|exact (z0 _).b|exact (z1 _).b|exact (z2 _ _ _ zsd _ zsd zsd zsd).b))|exact zsq|fail)
 refine JD (ι:=Nat) (fun i=>i≤q∧(l.take i).any (fun y=>y.w0 == x.w0) = false) (fun i=>stL [(0,.sl 4 (l.map Qq.v)),(1,V.str name),(2,.sl 6 (st.map Qv.v)),(6,.ptr 0 0),(9,.hd 1 0 acc.length),(11,V.int q),(12,V.int i)] [.box true XN,.buf true 3 (acc.map PIt.v)]) (fun i=>q - i) 0 ⟨zw _,rfl⟩ (xI [0,1] (by rw [hm];rfl) ⟨⟨_,rfl,fun h=>h,Yh _ _ _ _ _ _ _ _ _⟩,⟨_,rfl,fun h=>h,rfl,rfl⟩,trivial⟩) fun i hi K4 hL4=>?_
 obtain ⟨hi,hia⟩:=hi
 simp only [stL,XN]
 by_cases hie:i = q
 ·subst hie
  have e4:decide ((i:Int) < (i:Int)) = false:=by simp
  rw [hia,if_neg (by decide)] at hinv
  have hxw:=anu (hwd x hxm).2
  have hwl:=List.length_pos_iff.2 hxw
  have hlw:(x.words.map V.str).length = x.words.length:=zh _
  have hsl:List.take (x.words.length - 1) (List.drop 1 (x.words.map V.str)) = (x.words.drop 1).map V.str:=by
   rw [zb (by simp),List.map_drop]
  have htk:l.take (i + 1) = l.take i++[x]:=by rw [zB,hget];rfl
  have hln:acc.length + 1 = (acc++[itB x]).length:=by simp
  have htp:List.take acc.length (acc.map PIt.v) = acc.map PIt.v:=zb (by simp)
  have hxs:=(hb x hxm).hl
  have hsz:((x.words.drop 1).map V.str).length < 2 ^ 28:=by rw [zh,kO];omega
  have hlw2:((x.words.drop 1).map V.str).length = (x.words.drop 1).length:=zh _
  have hal:acc.length≤i:=by rw [hac];simp;omega
  repeat' (first|(refine zsk ?_;intro K' hK)|(refine zrg ?_;intro K' hK)|refine zsp ?_|(refine zsc ?_ ?_<;>intro hc<;>first|exact znh|try simp only [znz] at hc)|simp (maxSteps:=1000000) only [go_sem,e4,hlo,hwi,hlw,hsl,hlw2,Int.toNat_natCast,zq,hget,Qq.v_def,Qq.cells]|(refine hK _ ?_;clear hK K')|apply zan|((first|apply QC|apply Qr);(focus first|exact hwx|exact (z0 _).b|exact (z1 _).b|exact (z2 _ _ _ zsd _ zsd zsd zsd).b))|exact zsq|fail)
  rw [hln]
  have hn1:twB (l.take (i + 1)) (l.drop (i + 1)) = twB [] l:=by rw [htk,hr];exact hinv
  have hn2:acc++[itB x] = (l.take (i + 1)).map itB:=by rw [htk,hac,zG,List.map_singleton]
  clear hac
  all_goals first|exact hL3 _ (i + 1,acc++[itB x]) ⟨by simp only;omega,hn1,hn2⟩ (by simp only;omega) (xI [0,24002] (by rw [hm];rfl) ⟨⟨_,rfl,fun h=>h,Yh _ _ _ _ _ _ _ _ _⟩,⟨_,rfl,fun h=>h,rfl,by first|exact ams (y:=itB x) rfl rfl (by decide)|(rw [htp];exact ams (y:=itB x) rfl rfl (by decide)),acV _⟩,trivial⟩)
 ·obtain ⟨y,hgy⟩:∃ y,l[i]? = some y:=⟨_,zf (by omega)⟩
  have e4:decide ((i:Int) < (q:Int)) = true:=by simp;omega
  have hwj:=Qd (k:=i) (by omega)
  have hwy:=(z0 y).b
  rw [Qq.v_def,Qq.cells] at hwy
  have hta:(l.take (i + 1)).any (fun y=>y.w0 == x.w0) = (y.w0 == x.w0):=by rw [zB,hgy,List.any_append,hia];simp
  rcases hyx:y.w0 == x.w0 with _|_
  ·rw [hyx] at hta
   repeat' (first|(refine zsk ?_;intro K' hK)|(refine zrg ?_;intro K' hK)|refine zsp ?_|(refine zsc ?_ ?_<;>intro hc<;>first|exact znh|try simp only [znz] at hc)|simp (maxSteps:=1000000) only [go_sem,e4,hlo,hwj,hyx,Int.toNat_natCast,zq,hgy,hget,Qq.v_def,Qq.cells]|(refine hK _ ?_;clear hK K')|apply zan|((first|apply QC|apply Qr);(focus first|exact hwy|exact hwx|exact (z0 _).b|exact (z1 _).b|exact (z2 _ _ _ zsd _ zsd zsd zsd).b))|exact zsq|fail)
   all_goals exact hL4 _ (i + 1) ⟨by omega,hta⟩ (by omega) (xI [0,1] (by rw [hm];rfl) ⟨⟨_,rfl,fun h=>h,Yh _ _ _ _ _ _ _ _ _⟩,⟨_,rfl,fun h=>h,rfl,rfl⟩,trivial⟩)
  ·have hany:(l.take q).any (fun y=>y.w0 == x.w0) = true:=kG.2 ⟨y,zj (i:=i) (by rw [List.getElem?_take_of_lt (by omega)];exact hgy),hyx⟩
   rw [hany,if_pos rfl] at hinv
   rw [← hinv]
   simp only [vn,adF,QM.v,QM.cells,zl]
   repeat' (first|(refine zsk ?_;intro K' hK)|(refine zrg ?_;intro K' hK)|refine zsp ?_|(refine zsc ?_ ?_<;>intro hc<;>first|exact znh|try simp only [znz] at hc)|simp (maxSteps:=1000000) only [go_sem,e4,hlo,hwj,hyx,Int.toNat_natCast,zq,hgy,hget,Qq.v_def,Qq.cells]|(refine hK _ ?_;clear hK K')|apply zan|((first|apply QC|apply Qr);(focus first|exact hwy|exact hwx|exact (z0 _).b|exact (z1 _).b|exact (z2 _ _ _ zsd _ zsd zsd zsd).b))|exact zsq|fail)
   all_goals exact zr
structure Qq.Top (x:Qq):Prop where
 w:x.words.length < 2 ^ 60
 n:x.sub.length < 2 ^ 27
 s:∀ y∈x.sub,y.Sm
theorem amJ {α:Type} {p:α→Bool} {own:List α} {k:Nat} {x:α} {r:List α} (hd:own.drop k = x :: r) (h:(own.take k).find? p = none):(p x = false→(own.take (k + 1)).find? p = none)∧(p x = true→own.find? p = some x):=by
 obtain ⟨hk,hget,hr⟩:=Qe hd
 refine ⟨fun hx=>?_,fun hx=>?_⟩
 ·rw [zB,hget,List.find?_append,h];simp [hx]
 ·rw [← zR k own,hd,List.find?_append,h];simp [hx]
theorem aqs (l:List Qq) (name:List UInt8) (st:List Qv):∃ e n k,aoC l name st = .tup [QM.v e,V.int n,V.int k]:=by
 unfold aoC
 split
 ·exact ⟨_,_,_,rfl⟩
 ·split
  ·exact ⟨_,_,_,rfl⟩
  ·exact ajA _
def Xn:=qd Proofs.Tryz.f23 []
def WQ (Γ:Env) (f:Nat):Prop:=∀ (l:List Qq) (name:List UInt8) (st:List Qv) (hn:name.length < 2 ^ 30) (hl:l.length < 2 ^ 27) (ht:∀ x∈l,x.Top) (hk:st.length < 2 ^ 60) (hs:∀ x∈st,x.Sm),EvC Γ f [.sl 4 (l.map Qq.v),V.str name,.sl 6 (st.map Qv.v)] (adO l name st)
attribute [local go_sem] List.getElem?_cons_succ List.getElem?_cons_zero List.length_cons List.length_nil zm zl Qq.cells Qq.v_def in
theorem w9 {Γ:Env} {f:Nat} (h:Has Γ.P f 71 Xn.1.1.ac Xn.1.2) (z0:ji Γ 42) (z1:jh Γ 67):WQ Γ f:=by
 intro l name st hn hl ht hk hs
 refine Qn h zsi (abz _ _ _) fun C hC hm=>?_
 subst hC
 simp only [Xn,qd,DC.ac]
 have hm:C.m = 0:=by simpa using hm
 have hlm:(l.map Qq.v).length = l.length:=zh _
 have hb:=(z0 name st hn hk hs).b
 by_cases h0:Va name st≠0
 ·rw [adO,if_pos h0]
  generalize Va name st = er at *
  have e0:(er != 0) = true:=by simpa using h0
  simp only [vn,adF,QM.v,QM.cells,zl]
  (have zx:=e0);exact zg
 have h0:Va name st = 0:=by simpa using h0
 rw [h0] at hb
 rw [adO,if_neg (by rw [h0];simp)]
 refine zgo ?_;repeat' first|exact zt|apply zan|intro hc
 refine JD (ι:=Nat) (fun k=>k≤l.length∧(l.take k).find? (aof name) = none) (fun k=>stL [(0,.sl 4 (l.map Qq.v)),(1,V.str name),(2,.sl 6 (st.map Qv.v)),(6,.ptr 0 0),(10,V.int k)] [.box true XN]) (fun k=>l.length - k) 0 ⟨zw _,rfl⟩ (xI [0] (by rw [hm];rfl) ⟨⟨_,rfl,fun h=>h,Yh _ _ _ _ _ _ _ _ _⟩,trivial⟩) fun k hk3 K2 hL2=>?_
 obtain ⟨hk3,hno⟩:=hk3
 simp only [stL,XN]
 rcases hdo:l.drop k with _|⟨x,r⟩
 ·have hkl:=Qj hdo
  have e3:decide ((k:Int) < ((l.length:Nat):Int)) = false:=by simp;omega
  rw [zb hkl] at hno
  rw [hno]
  simp only [vn,adF,QM.v,QM.cells,zl]
  (have zx:=za e3 hlm);exact zg
 obtain ⟨hk',hget,hr⟩:=Qe hdo
 have hwi:=Qd (k:=k) (by omega)
 have e3:decide ((k:Int) < ((l.length:Nat):Int)) = true:=by simp;omega
 have hxm:=zj hget
 obtain ⟨g1,g2⟩:=amJ hdo hno
 rcases ho:x.op with _|_
 ·(have zx:=za e3 (za hlm (za hwi (za hget ho))));refine zgo ?_;repeat' first|exact zt|apply zan|intro hc
  all_goals exact hL2 _ (k + 1) ⟨by omega,g1 (by rw [aof,ho];rfl)⟩ (by omega) (xI [0] (by rw [hm];rfl) ⟨⟨_,rfl,fun h=>h,Yh _ _ _ _ _ _ _ _ _⟩,trivial⟩)
 have hlw:(x.words.map V.str).length = x.words.length:=zh _
 by_cases h2:x.words.length = 2
 ·obtain ⟨a,b,hab⟩:∃ a b,x.words = [a,b]:=by
   match x.words,h2 with
   | [a,b],_=>exact ⟨a,b,rfl⟩
  have hh:aof name x = (a == [115,101,114,118,101,114] && b == name):=by
   rw [aof,ho,hab];simp [eqL,eqS]
  rcases ha:a == [115,101,114,118,101,114] with _|_
  ·(have zx:=za e3 (za hlm (za hwi (za hget (za ho (za hab ha))))));refine zgo ?_;repeat' first|exact zt|apply zan|intro hc
   all_goals exact hL2 _ (k + 1) ⟨by omega,g1 (by rw [hh,ha];rfl)⟩ (by omega) (xI [0] (by rw [hm];rfl) ⟨⟨_,rfl,fun h=>h,Yh _ _ _ _ _ _ _ _ _⟩,trivial⟩)
  rcases hbn:b == name with _|_
  ·(have zx:=za e3 (za hlm (za hwi (za hget (za ho (za hab (za ha hbn)))))));refine zgo ?_;repeat' first|exact zt|apply zan|intro hc
   all_goals exact hL2 _ (k + 1) ⟨by omega,g1 (by rw [hh,ha,hbn];rfl)⟩ (by omega) (xI [0] (by rw [hm];rfl) ⟨⟨_,rfl,fun h=>h,Yh _ _ _ _ _ _ _ _ _⟩,trivial⟩)
  ·rw [g2 (by rw [hh,ha,hbn];rfl)]
   simp only
   have hbl:=(z1 x.sub name st (ht x hxm).n (ht x hxm).s hk hs).b
   obtain ⟨e',n',k',hmv⟩:=aqs x.sub name st
   rw [hmv] at hbl ⊢
   simp only [QM.v,QM.cells] at hbl ⊢
   (have zx:=za e3 (za hlm (za hwi (za hget (za ho (za hab (za ha hbn)))))));exact zg
 ·have e5:((x.words.length:Int) == 2) = false:=by simp;omega
  have hh:aof name x = false:=by rw [aof,abd _ _ (by simpa using h2),zI]
  (have zx:=za e3 (za hlm (za hwi (za hlw (za e5 (za hget ho))))));refine zgo ?_;repeat' first|exact zt|apply zan|intro hc
  all_goals exact hL2 _ (k + 1) ⟨by omega,g1 hh⟩ (by omega) (xI [0] (by rw [hm];rfl) ⟨⟨_,rfl,fun h=>h,Yh _ _ _ _ _ _ _ _ _⟩,trivial⟩)
theorem ajJ {α:Type} (p:α→Bool):∀ (xs:List α) (k:Nat),(xs.find? p = none∧VS p k xs = -1)∨∃ i x,xs[i]? = some x∧xs.find? p = some x∧VS p k xs = ((k + i:Nat):Int)
 | [],k=>.inl ⟨rfl,rfl⟩
 | x :: r,k=>by
   by_cases h:p x = true
   ·exact .inr ⟨0,x,rfl,by simp [h],by rw [VS,if_pos h];rfl⟩
   ·have h':p x = false:=by simpa using h
    rcases ajJ p r (k + 1) with ⟨h1,h2⟩|⟨i,y,h1,h2,h3⟩
    ·exact .inl ⟨by simp [h',h1],by rw [VS,if_neg h,h2]⟩
    ·exact .inr ⟨i + 1,y,by simpa using h1,by simp [h',h2],by rw [VS,if_neg h,h3];congr 1;omega⟩
def ach:List V:=[.sc (.string ⟨#[]⟩),.sc (.int .i64 0),.sc (.int .i64 0),.hd 4 0 0,.sc (.bool false),.hd 5 0 0,.hd 6 0 0,.hd 7 0 0,.sc (.bool false)]
def fmB (e:QM) (st:List Qv) (ws:List V):List (Nat×Ob):=[(0,.box true ach),(1,.box true (drC e st)),(2,.map aeq ws 0),(3,.box true [.ptr 1 0]),(4,.buf true 1 []),(5,.buf true 4 []),(6,.buf true 1 []),(7,.buf true 1 [])]
def Yw:=qd Proofs.Tryz.f22 [⟨fun _=>false,[2],.one 0 (.one 1 (.or 2 (.one 3 (.one 4 (.one 5 (.done)))) (.or 3 (.one 2 (.one 4 (.one 5 (.done)))) (.done))))⟩,⟨fun y=>!decide (y = 1) && !decide (y = 3),[9],zoc 0 11⟩,⟨fun _=>false,[2],.one 0 (.one 1 (.or 2 (.one 3 (.one 4 (.one 5 (.done)))) (.or 3 (.one 2 (.one 4 (.one 5 (.done)))) (.done))))⟩,⟨fun _=>false,[2],.one 0 (.one 1 (.or 2 (.one 3 (.one 4 (.one 5 (.done)))) (.or 3 (.one 2 (.one 4 (.one 5 (.done)))) (.done))))⟩,zhn 10]
def Xi (Γ:Env) (f:Nat):Prop:=∀ (l:List Qq) (name:List UInt8) (st:List Qv) (hn:name.length < 2 ^ 30) (hl:l.length < 2 ^ 27) (ht:∀ x∈l,x.Top) (hk:st.length < 2 ^ 60) (hs:∀ x∈st,x.Sm),EvC Γ f [.sl 4 (l.map Qq.v),V.str name,.sl 6 (st.map Qv.v)] (adO l name st)
theorem xe {Γ:Env} {f:Nat} (h:Has Γ.P f 114 Yw.1.1.ac Yw.1.2) (z0:Wf Γ 35) (z1:YT Γ 63) (z2:QF Γ 62) (z3:Wg Γ 36) (z4:J0 Γ 37) (z5:YS Γ 65) (z6:QZ Γ 66) (z7:JQ Γ 41):Xi Γ f:=by
 intro l name st hn hl ht hk hs
 refine Qn h zsi (abz _ _ _) fun C hC hm=>?_
 subst hC
 simp only [Yw,qd,DC.ac]
 have hm:C.m = 0:=by simpa using hm
 have hlm:(l.map Qq.v).length = l.length:=zh _
 have hb:=(z0 name st hn hk hs).b
 by_cases h0:Va name st≠0
 ·rw [adO,if_pos h0]
  generalize Va name st = er at *
  have e0:(er != 0) = true:=by simpa using h0
  simp only [vn,adF,QM.v,QM.cells,zl]
  repeat' (first|(refine zsk ?_;intro K' hK)|(refine zrg ?_;intro K' hK)|refine zsp ?_|(refine zsc ?_ ?_<;>intro hc<;>first|exact znh|try simp only [znz] at hc)|simp (maxSteps:=1000000) only [go_sem,e0]|(refine hK _ ?_;clear hK K')|apply zan|(apply XH;(focus exact rfl);(focus first|exact (z7 _ _));(focus exact rfl);(focus exact rfl))|(apply Ye;(focus exact rfl);(focus exact zrd);(focus exact zrd);(focus first|exact (z7 _ _));(focus exact rfl);(focus exact rfl);(focus exact zrd))|(apply Vo;(focus first|exact (z3 _ _)))|(apply Y5;(focus first|exact (z3 _ _));(focus exact zrd))|((first|apply QC|apply Qr);(focus first|exact hb|exact (z0 _ _ zsd zsd zsd).b|exact (z1 _ _ zsd).b|exact (z2 _ _ _ _ zsd zsd zsd).b|exact (z5 _ _ zsd zsd).b|exact (z6 _ _ _ _ zsd zsd zsd).b))|exact zsq|fail)
  all_goals exact zr
 have h0:Va name st = 0:=by simpa using h0
 rw [h0] at hb
 rw [adO,if_neg (by rw [h0];simp)]
 have hix:=(z2 l 63 [.ro [V.str name] 0] (aof name) (fun x hx=>z1 x name (ht x hx).w) (by simp [V.closed,Qa]) (by omega)).b
 rcases ajJ (aof name) l 0 with ⟨f1,f2⟩|⟨ix,xb,f0,f1,f2⟩
 ·rw [f2] at hix
  rw [f1]
  simp only [vn,adF,QM.v,QM.cells,zl]
  repeat' (first|(refine zsk ?_;intro K' hK)|(refine zrg ?_;intro K' hK)|refine zsp ?_|(refine zsc ?_ ?_<;>intro hc<;>first|exact znh|try simp only [znz] at hc)|simp (maxSteps:=1000000) only [go_sem]|(refine hK _ ?_;clear hK K')|apply zan|(apply XH;(focus exact rfl);(focus first|exact (z7 _ _));(focus exact rfl);(focus exact rfl))|(apply Ye;(focus exact rfl);(focus exact zrd);(focus exact zrd);(focus first|exact (z7 _ _));(focus exact rfl);(focus exact rfl);(focus exact zrd))|(apply Vo;(focus first|exact (z3 _ _)))|(apply Y5;(focus first|exact (z3 _ _));(focus exact zrd))|((first|apply QC|apply Qr);(focus first|exact hb|exact hix|exact (z0 _ _ zsd zsd zsd).b|exact (z1 _ _ zsd).b|exact (z2 _ _ _ _ zsd zsd zsd).b|exact (z5 _ _ zsd zsd).b|exact (z6 _ _ _ _ zsd zsd zsd).b))|exact zsq|fail)
  all_goals exact zr
 have hxb:=zj f0
 have hix2:ix < l.length:=(zE.1 f0).1
 rw [f2,Zj] at hix
 rw [f1]
 simp only
 obtain ⟨ht1,ht2⟩:xb.sub.length < 2 ^ 27∧∀ y∈xb.sub,y.Sm:=⟨(ht xb hxb).n,(ht xb hxb).s⟩
 have e1:decide ((ix:Int) < 0) = false:=by simp
 obtain ⟨g1,g2,g3,g4,g5,g6,g7,g8,c1,c2,c3,c4,c5,c6,c7,c8,hJ⟩:=z4
 have hbe:=z3 name st
 rw [aoC]
 generalize hon:xb.sub = own at *
 have hlo:(own.map Qq.v).length = own.length:=zh _
 generalize agt name = e0 at *
 have hJ0:=hJ _ (JW e0 st)
 simp only [drC] at hbe hJ0
 repeat' (first|(refine zsk ?_;intro K' hK)|(refine zrg ?_;intro K' hK)|refine zsp ?_|(refine zsc ?_ ?_<;>intro hc<;>first|exact znh|try simp only [znz] at hc)|simp (maxSteps:=1000000) only [go_sem,e1,Int.toNat_natCast,zq,f0,Qq.v_def,Qq.cells,hon,hlo,KS,V.ren,ao2,ao1]|(refine hK _ ?_;clear hK K')|apply zan|(apply anf;(focus exact rfl);(focus first|exact hJ0);(focus exact rfl))|(apply XH;(focus exact rfl);(focus first|exact (z7 _ _));(focus exact rfl);(focus exact rfl))|(apply Ye;(focus exact rfl);(focus exact zrd);(focus exact zrd);(focus first|exact (z7 _ _));(focus exact rfl);(focus exact rfl);(focus exact zrd))|(apply Vo;(focus first|exact hbe|exact (z3 _ _)))|(apply Y5;(focus first|exact hbe|exact (z3 _ _));(focus exact zrd))|((first|apply QC|apply Qr);(focus first|exact hb|exact hix|exact (z0 _ _ zsd zsd zsd).b|exact (z1 _ _ zsd).b|exact (z2 _ _ _ _ zsd zsd zsd).b|exact (z5 _ _ zsd zsd).b|exact (z6 _ _ _ _ zsd zsd zsd).b))|exact zsq|fail)
 refine Qz (ι:=Nat) (fun k=>k≤own.length∧(own.take k).find? ahP = none) (fun k=>Yo [(6,.ptr 0 0),(11,.ptr 1 0),(12,.sl 4 (own.map Qq.v)),(13,.mp 2),(44,.sl 4 (own.map Qq.v)),(45,V.int own.length),(46,V.int k)] (fmB e0 st (JR g1 g2 g3 g4 g5 g6 g7 g8)) 8) (fun k=>own.length - k) 0 ⟨zw _,rfl⟩ (Qp [(0,1000),(1,18000),(2,27000),(3,27001),(4,1004),(5,1006),(6,1007),(7,1008)]) (JS [(0,1000),(1,18000),(2,27000),(3,27001),(4,1004),(5,1006),(6,1007),(7,1008)] (by simp only [go_sem,zwl,fmB,ach,drC,JR]<;>exact zcc) (by simp only [go_sem,zwl,fmB,ach,drC,JR]<;>exact zcc) (by simp [fmB,Qp]) (by simp [fmB];omega) (by omega)) fun k hk3 K2 hL2=>?_
 obtain ⟨hk3,hno⟩:=hk3
 rcases hdo:own.drop k with _|⟨x,r⟩
 rotate_left
 ·obtain ⟨hk',hget,hr⟩:=Qe hdo
  have hwi:=Qd (k:=k) (by omega)
  have e3:decide ((k:Int) < ((own.length:Nat):Int)) = true:=by simp;omega
  obtain ⟨q1,q2⟩:=ahO hdo hno
  have hlw:(x.words.map V.str).length = x.words.length:=zh _
  rcases hxw:x.words with _|⟨a,wr⟩
  ·rw [q2 (by rw [ahP,Qq.w0,hxw];cases x.op<;>decide)]
   simp only [vn,adF,QM.v,QM.cells,zl]
   repeat' (first|(refine zsk ?_;intro K' hK)|(refine zrg ?_;intro K' hK)|refine zsp ?_|(refine zsc ?_ ?_<;>intro hc<;>first|exact znh|try simp only [znz] at hc)|simp (maxSteps:=1000000) only [go_sem,Yo,fmB,ach,e3,hlo,hwi,Int.toNat_natCast,zq,hget,Qq.v_def,Qq.cells,hxw,zl,List.length_nil]|(refine hK _ ?_;clear hK K')|apply zan|(apply XH;(focus exact rfl);(focus first|exact (z7 _ _));(focus exact rfl);(focus exact rfl))|(apply Ye;(focus exact rfl);(focus exact zrd);(focus exact zrd);(focus first|exact (z7 _ _));(focus exact rfl);(focus exact rfl);(focus exact zrd))|(apply Vo;(focus first|exact (z3 _ _)))|(apply Y5;(focus first|exact (z3 _ _));(focus exact zrd))|((first|apply QC|apply Qr);(focus first|exact (z0 _ _ zsd zsd zsd).b|exact (z1 _ _ zsd).b|exact (z2 _ _ _ _ zsd zsd zsd).b|exact (z5 _ _ zsd zsd).b|exact (z6 _ _ _ _ zsd zsd zsd).b))|exact zsq|fail)
   all_goals exact zr
  have hw0:x.w0 = a:=by rw [Qq.w0,hxw];rfl
  have e4:(((a :: wr).length:Int) == 0) = false:=by simp;omega
  have hlw2:(((a :: wr).map V.str).length) = (a :: wr).length:=zh _
  rcases hop:x.op with _|_
  rotate_left
  ·rw [q2 (by rw [ahP,hop];rfl)]
   simp only [vn,adF,QM.v,QM.cells,zl]
   repeat' (first|(refine zsk ?_;intro K' hK)|(refine zrg ?_;intro K' hK)|refine zsp ?_|(refine zsc ?_ ?_<;>intro hc<;>first|exact znh|try simp only [znz] at hc)|simp (maxSteps:=1000000) only [go_sem,Yo,fmB,ach,e3,e4,hlw2,hlo,hwi,Int.toNat_natCast,zq,hget,Qq.v_def,Qq.cells,hxw,hop]|(refine hK _ ?_;clear hK K')|apply zan|(apply XH;(focus exact rfl);(focus first|exact (z7 _ _));(focus exact rfl);(focus exact rfl))|(apply Ye;(focus exact rfl);(focus exact zrd);(focus exact zrd);(focus first|exact (z7 _ _));(focus exact rfl);(focus exact rfl);(focus exact zrd))|(apply Vo;(focus first|exact (z3 _ _)))|(apply Y5;(focus first|exact (z3 _ _));(focus exact zrd))|((first|apply QC|apply Qr);(focus first|exact (z0 _ _ zsd zsd zsd).b|exact (z1 _ _ zsd).b|exact (z2 _ _ _ _ zsd zsd zsd).b|exact (z5 _ _ zsd zsd).b|exact (z6 _ _ _ _ zsd zsd zsd).b))|exact zsq|fail)
   all_goals exact zr
  by_cases hx:a∈Ym
  ·obtain ⟨i,hnm,hcl⟩:=vF c1 c2 c3 c4 c5 c6 c7 c8 hx (l:=[]) e0 (by simp) (by simp) hk hs
   obtain ⟨fk,cc,hcl⟩:∃ fk cc,(JR g1 g2 g3 g4 g5 g6 g7 g8)[i]? = some (.clo fk cc):=by
    rcases hcl with ⟨g,h,_⟩|⟨g,h,_⟩<;>exact ⟨_,_,h⟩
   repeat' (first|(refine zsk ?_;intro K' hK)|(refine zrg ?_;intro K' hK)|refine zsp ?_|(refine zsc ?_ ?_<;>intro hc<;>first|exact znh|try simp only [znz] at hc)|simp (maxSteps:=1000000) only [go_sem,Yo,fmB,e3,e4,hlw2,hlo,hwi,Int.toNat_natCast,zq,hget,Qq.v_def,Qq.cells,hxw,hop,hnm,hcl,zm,List.getElem?_cons_zero]|(refine hK _ ?_;clear hK K')|apply zan|(apply XH;(focus exact rfl);(focus first|exact (z7 _ _));(focus exact rfl);(focus exact rfl))|(apply Ye;(focus exact rfl);(focus exact zrd);(focus exact zrd);(focus first|exact (z7 _ _));(focus exact rfl);(focus exact rfl);(focus exact zrd))|(apply Vo;(focus first|exact (z3 _ _)))|(apply Y5;(focus first|exact (z3 _ _));(focus exact zrd))|((first|apply QC|apply Qr);(focus first|exact (z0 _ _ zsd zsd zsd).b|exact (z1 _ _ zsd).b|exact (z2 _ _ _ _ zsd zsd zsd).b|exact (z5 _ _ zsd zsd).b|exact (z6 _ _ _ _ zsd zsd zsd).b))|exact zsq|fail)
   all_goals exact hL2 _ (k + 1) (Qp []) ⟨by omega,q1 (by rw [ahP,hop,hw0,zu hx];rfl)⟩ (by omega) (JS [] (by simp only [go_sem,zwl,fmB,ach,JR]<;>exact zcc) (by simp only [go_sem,zwl,fmB,ach,JR,drC]<;>exact zcc) (by simp [fmB,Qp]) (by simp [fmB]) (by omega))
  ·have hnm:=acY a Ym 0 hx
   rw [show Ym.map V.str = aeq from rfl] at hnm
   rw [q2 (by rw [ahP,hop,hw0,zv hx];rfl)]
   simp only [vn,adF,QM.v,QM.cells,zl]
   repeat' (first|(refine zsk ?_;intro K' hK)|(refine zrg ?_;intro K' hK)|refine zsp ?_|(refine zsc ?_ ?_<;>intro hc<;>first|exact znh|try simp only [znz] at hc)|simp (maxSteps:=1000000) only [go_sem,Yo,fmB,ach,e3,e4,hlw2,hlo,hwi,Int.toNat_natCast,zq,hget,Qq.v_def,Qq.cells,hxw,hop,hnm,zm,List.getElem?_cons_zero,List.headD_cons]|(refine hK _ ?_;clear hK K')|apply zan|(apply XH;(focus exact rfl);(focus first|exact (z7 _ _));(focus exact rfl);(focus exact rfl))|(apply Ye;(focus exact rfl);(focus exact zrd);(focus exact zrd);(focus first|exact (z7 _ _));(focus exact rfl);(focus exact rfl);(focus exact zrd))|(apply Vo;(focus first|exact (z3 _ _)))|(apply Y5;(focus first|exact (z3 _ _));(focus exact zrd))|((first|apply QC|apply Qr);(focus first|exact (z0 _ _ zsd zsd zsd).b|exact (z1 _ _ zsd).b|exact (z2 _ _ _ _ zsd zsd zsd).b|exact (z5 _ _ zsd zsd).b|exact (z6 _ _ _ _ zsd zsd zsd).b))|exact zsq|fail)
   all_goals exact zr
 have hkl:=Qj hdo
 have e3:decide ((k:Int) < ((own.length:Nat):Int)) = false:=by simp;omega
 rw [zb hkl] at hno
 have hwd:=ahN hno
 rw [hno]
 simp only
 clear hL2
 repeat' (first|(refine zsk ?_;intro K' hK)|(refine zrg ?_;intro K' hK)|refine zsp ?_|(refine zsc ?_ ?_<;>intro hc<;>first|exact znh|try simp only [znz] at hc)|simp (maxSteps:=1000000) only [go_sem,Yo,fmB,e3,hlo]|(refine hK _ ?_;clear hK K')|apply zan|(apply XH;(focus exact rfl);(focus first|exact (z7 _ _));(focus exact rfl);(focus exact rfl))|(apply Ye;(focus exact rfl);(focus exact zrd);(focus exact zrd);(focus first|exact (z7 _ _));(focus exact rfl);(focus exact rfl);(focus exact zrd))|(apply Vo;(focus first|exact (z3 _ _)))|(apply Y5;(focus first|exact (z3 _ _));(focus exact zrd))|((first|apply QC|apply Qr);(focus first|exact (z0 _ _ zsd zsd zsd).b|exact (z1 _ _ zsd).b|exact (z2 _ _ _ _ zsd zsd zsd).b|exact (z5 _ _ zsd zsd).b|exact (z6 _ _ _ _ zsd zsd zsd).b))|exact zsq|fail)
 refine Qz (ι:=Nat) (fun k=>k≤own.length∧twB (own.take k) (own.drop k) = twB [] own) (fun k=>Yo [(6,.ptr 0 0),(11,.ptr 1 0),(12,.sl 4 (own.map Qq.v)),(13,.mp 2),(71,.sl 4 (own.map Qq.v)),(72,V.int own.length),(73,V.int k)] (fmB e0 st (JR g1 g2 g3 g4 g5 g6 g7 g8)) 8) (fun k=>own.length - k) 0 ⟨zw _,rfl⟩ (Qp []) (JS [] (by simp only [go_sem,zwl,fmB,ach,drC,JR]<;>exact zcc) (by simp only [go_sem,zwl,fmB,ach,drC,JR]<;>exact zcc) (by simp [fmB,Qp]) (by simp [fmB]) (by omega)) fun j hj3 K3 hL3=>?_
 obtain ⟨hj3,htw⟩:=hj3
 clear hkl e3 hdo k hk3
 rcases hdj:own.drop j with _|⟨x,r⟩
 rotate_left
 ·obtain ⟨hk',hget,hr⟩:=Qe hdj
  have hwi:=Qd (k:=j) (by omega)
  have e3:decide ((j:Int) < ((own.length:Nat):Int)) = true:=by simp;omega
  have hxm:=zj hget
  rw [hdj,twB] at htw
  have hcf:=(z6 (own.take j) 65 [.ro x.cells 0] (fun y=>y.w0 == x.w0) (fun y hy=>z5 y x (anu (hwd y (List.mem_of_mem_take hy)).2) (anu (hwd x hxm).2)) (by simp [Qq.cells,V.closed,Qa]) (by simp;omega)).b
  have hsl:List.take j (own.map Qq.v) = (own.take j).map Qq.v:=List.map_take.symm
  have hsl0:List.take (j - 0) (own.map Qq.v) = (own.take j).map Qq.v:=by rw [Nat.sub_zero,hsl]
  simp only [Qq.cells] at hcf
  rcases hag:(own.take j).any (fun y=>y.w0 == x.w0) with _|_
  ·rw [hag,if_neg (by decide)] at htw
   rw [hag] at hcf
   have htk:own.take (j + 1) = own.take j++[x]:=by rw [zB,hget];rfl
   repeat' (first|(refine zsk ?_;intro K' hK)|(refine zrg ?_;intro K' hK)|refine zsp ?_|(refine zsc ?_ ?_<;>intro hc<;>first|exact znh|try simp only [znz] at hc)|simp (maxSteps:=1000000) only [go_sem,Yo,fmB,e3,hlo,hwi,hsl,hsl0,Int.toNat_natCast,zq,hget,Qq.v_def,Qq.cells]|(refine hK _ ?_;clear hK K')|apply zan|(apply XH;(focus exact rfl);(focus first|exact (z7 _ _));(focus exact rfl);(focus exact rfl))|(apply Ye;(focus exact rfl);(focus exact zrd);(focus exact zrd);(focus first|exact (z7 _ _));(focus exact rfl);(focus exact rfl);(focus exact zrd))|(apply Vo;(focus first|exact (z3 _ _)))|(apply Y5;(focus first|exact (z3 _ _));(focus exact zrd))|((first|apply QC|apply Qr);(focus first|exact hcf|exact (z0 _ _ zsd zsd zsd).b|exact (z1 _ _ zsd).b|exact (z2 _ _ _ _ zsd zsd zsd).b|exact (z5 _ _ zsd zsd).b|exact (z6 _ _ _ _ zsd zsd zsd).b))|exact zsq|fail)
   all_goals exact hL3 _ (j + 1) (Qp []) ⟨by omega,by rw [htk,hr];exact htw⟩ (by omega) (JS [] (by simp only [go_sem,zwl,fmB,ach,JR]<;>exact zcc) (by simp only [go_sem,zwl,fmB,ach,JR,drC]<;>exact zcc) (by simp [fmB,Qp]) (by simp [fmB]) (by omega))
  ·rw [hag,if_pos rfl] at htw
   rw [hag] at hcf
   rw [← htw]
   simp only [vn,adF,QM.v,QM.cells,zl]
   repeat' (first|(refine zsk ?_;intro K' hK)|(refine zrg ?_;intro K' hK)|refine zsp ?_|(refine zsc ?_ ?_<;>intro hc<;>first|exact znh|try simp only [znz] at hc)|simp (maxSteps:=1000000) only [go_sem,Yo,fmB,ach,e3,hlo,hwi,hsl,hsl0,Int.toNat_natCast,zq,hget,Qq.v_def,Qq.cells]|(refine hK _ ?_;clear hK K')|apply zan|(apply XH;(focus exact rfl);(focus first|exact (z7 _ _));(focus exact rfl);(focus exact rfl))|(apply Ye;(focus exact rfl);(focus exact zrd);(focus exact zrd);(focus first|exact (z7 _ _));(focus exact rfl);(focus exact rfl);(focus exact zrd))|(apply Vo;(focus first|exact (z3 _ _)))|(apply Y5;(focus first|exact (z3 _ _));(focus exact zrd))|((first|apply QC|apply Qr);(focus first|exact hcf|exact (z0 _ _ zsd zsd zsd).b|exact (z1 _ _ zsd).b|exact (z2 _ _ _ _ zsd zsd zsd).b|exact (z5 _ _ zsd zsd).b|exact (z6 _ _ _ _ zsd zsd zsd).b))|exact zsq|fail)
   all_goals exact zr
 have hkl:=Qj hdj
 have e3:decide ((j:Int) < ((own.length:Nat):Int)) = false:=by simp;omega
 rw [hdj,twB] at htw
 rw [← htw]
 simp only
 clear hL3
 generalize hG:jR st (own.map itB) e0 = G
 repeat' (first|(refine zsk ?_;intro K' hK)|(refine zrg ?_;intro K' hK)|refine zsp ?_|(refine zsc ?_ ?_<;>intro hc<;>first|exact znh|try simp only [znz] at hc)|simp (maxSteps:=1000000) only [go_sem,Yo,fmB,e3,hlo]|(refine hK _ ?_;clear hK K')|apply zan|(apply XH;(focus exact rfl);(focus first|exact (z7 _ _));(focus exact rfl);(focus exact rfl))|(apply Ye;(focus exact rfl);(focus exact zrd);(focus exact zrd);(focus first|exact (z7 _ _));(focus exact rfl);(focus exact rfl);(focus exact zrd))|(apply Vo;(focus first|exact (z3 _ _)))|(apply Y5;(focus first|exact (z3 _ _));(focus exact zrd))|((first|apply QC|apply Qr);(focus first|exact (z0 _ _ zsd zsd zsd).b|exact (z1 _ _ zsd).b|exact (z2 _ _ _ _ zsd zsd zsd).b|exact (z5 _ _ zsd zsd).b|exact (z6 _ _ _ _ zsd zsd zsd).b))|exact zsq|fail)
 refine Qz (ι:=Nat×QM) (fun q=>q.1≤own.length∧jR st ((own.drop q.1).map itB) q.2 = G) (fun q=>Yo [(6,.ptr 0 0),(11,.ptr 1 0),(13,.mp 2),(88,.sl 4 (own.map Qq.v)),(89,V.int own.length),(90,V.int q.1)] (fmB q.2 st (JR g1 g2 g3 g4 g5 g6 g7 g8)) 8) (fun q=>own.length - q.1) (0,e0) ⟨zw _,hG⟩ (Qp []) (JS [] (by simp only [go_sem,zwl,fmB,ach,drC,JR]<;>exact zcc) (by simp only [go_sem,zwl,fmB,ach,drC,JR]<;>exact zcc) (by simp [fmB,Qp]) (by simp [fmB]) (by omega)) fun q hq3 K4 hL4=>?_
 clear e3 hkl hdj hj3 htw j
 obtain ⟨j,e⟩:=q
 obtain ⟨hj,hrun⟩:=hq3
 simp only at hj hrun
 rcases hdj:own.drop j with _|⟨x,r⟩
 ·have hjl:=Qj hdj
  have e4:decide ((j:Int) < ((own.length:Nat):Int)) = false:=by simp;omega
  rw [hdj,zl,jR] at hrun
  subst hrun
  have hfi:=z7 e st
  rw [show wv (none,e) = aom e from rfl]
  obtain ⟨e',n',k',hfe⟩:=amK e
  rw [hfe] at hfi ⊢
  simp only [QM.v,QM.cells,drC] at hfi ⊢
  repeat' (first|(refine zsk ?_;intro K' hK)|(refine zrg ?_;intro K' hK)|refine zsp ?_|(refine zsc ?_ ?_<;>intro hc<;>first|exact znh|try simp only [znz] at hc)|simp (maxSteps:=1000000) only [go_sem,Yo,fmB,ach,drC,e4]|(refine hK _ ?_;clear hK K')|apply zan|(apply XH;(focus exact rfl);(focus first|exact hfi|exact (z7 _ _));(focus exact rfl);(focus exact rfl))|(apply Ye;(focus exact rfl);(focus exact zrd);(focus exact zrd);(focus first|exact hfi|exact (z7 _ _));(focus exact rfl);(focus exact rfl);(focus exact zrd))|(apply Vo;(focus first|exact (z3 _ _)))|(apply Y5;(focus first|exact (z3 _ _));(focus exact zrd))|((first|apply QC|apply Qr);(focus first|exact (z0 _ _ zsd zsd zsd).b|exact (z1 _ _ zsd).b|exact (z2 _ _ _ _ zsd zsd zsd).b|exact (z5 _ _ zsd zsd).b|exact (z6 _ _ _ _ zsd zsd zsd).b))|exact zsq|fail)
  all_goals exact zr
 obtain ⟨hj',hgj,hrj⟩:=Qe hdj
 have hwj:=Qd (k:=j) (by omega)
 have e4:decide ((j:Int) < ((own.length:Nat):Int)) = true:=by simp;omega
 have hxm:=zj hgj
 rw [hdj,zm,jR] at hrun
 have sm:=amt (ht2 x hxm)
 obtain ⟨a,wr,hxw⟩:∃ a wr,x.words = a :: wr:=by
  have:=anu (hwd x hxm).2
  match x.words,this with
  | a :: wr,_=>exact ⟨a,wr,rfl⟩
 have hw0:x.w0 = a:=by rw [Qq.w0,hxw];rfl
 have hwm:=(hwd x hxm).2
 rw [hw0] at hwm
 have hit:itB x = ⟨a,wr,x.line⟩:=by rw [itB,hw0,hxw];rfl
 rw [hit] at sm hrun
 obtain ⟨i,hnm,hcl⟩:=vF c1 c2 c3 c4 c5 c6 c7 c8 hwm (l:=wr) e sm.hl sm.hs hk hs
 change (if (YO st a wr e).1 = true then jR st (r.map itB) (YO st a wr e).2 else (some x.line,e)) = G at hrun
 obtain ⟨ap,hap⟩:∃ ap,ap = YO st a wr e:=⟨_,rfl⟩
 rw [← hap] at hrun hcl
 clear hap
 have hlw2:(((a :: wr).map V.str).length) = (a :: wr).length:=zh _
 have hlw3:(a :: wr).length - 1 = wr.length:=rfl
 have hsl:List.take ((wr.map V.str).length + 1 - 1) (wr.map V.str) = wr.map V.str:=by rw [Zg,zP]
 have e5:decide ((1:Int)≤(((a :: wr).length:Nat):Int)) = true:=by simp;omega
 obtain ⟨b,e'⟩:=ap
 simp only at hcl hrun
 rcases b with _|_
 ·rw [if_neg (by simp)] at hrun
  subst hrun
  simp only [wv,vn,adF,QM.v,QM.cells,zl]
  rcases hcl with ⟨g,hcl,hH⟩|⟨g,hcl,hH⟩
  ·repeat' (first|(refine zsk ?_;intro K' hK)|(refine zrg ?_;intro K' hK)|refine zsp ?_|(refine zsc ?_ ?_<;>intro hc<;>first|exact znh|try simp only [znz] at hc)|simp (maxSteps:=1000000) only [go_sem,Yo,fmB,ach,e4,hwj,hlo,hsl,Int.toNat_natCast,zq,hgj,Qq.v_def,Qq.cells,hxw,hnm,hcl]|(refine hK _ ?_;clear hK K')|apply zan|(apply akf;(focus exact rfl);(focus exact rfl);(focus first|exact hH);(focus exact rfl);(focus exact rfl))|(apply af7;(focus exact rfl);(focus exact rfl);(focus first|exact rfl|decide);(focus first|exact hH);(focus exact rfl);(focus exact rfl);(focus first|exact rfl|decide))|(apply XH;(focus exact rfl);(focus first|exact (z7 _ _));(focus exact rfl);(focus exact rfl))|(apply Ye;(focus exact rfl);(focus exact zrd);(focus exact zrd);(focus first|exact (z7 _ _));(focus exact rfl);(focus exact rfl);(focus exact zrd))|(apply Vo;(focus first|exact (z3 _ _)))|(apply Y5;(focus first|exact (z3 _ _));(focus exact zrd))|((first|apply QC|apply Qr);(focus first|exact (z0 _ _ zsd zsd zsd).b|exact (z1 _ _ zsd).b|exact (z2 _ _ _ _ zsd zsd zsd).b|exact (z5 _ _ zsd zsd).b|exact (z6 _ _ _ _ zsd zsd zsd).b))|exact zsq|fail)
   all_goals exact zr
  ·repeat' (first|(refine zsk ?_;intro K' hK)|(refine zrg ?_;intro K' hK)|refine zsp ?_|(refine zsc ?_ ?_<;>intro hc<;>first|exact znh|try simp only [znz] at hc)|simp (maxSteps:=1000000) only [go_sem,Yo,fmB,ach,e4,hwj,hlo,hsl,Int.toNat_natCast,zq,hgj,Qq.v_def,Qq.cells,hxw,hnm,hcl]|(refine hK _ ?_;clear hK K')|apply zan|(apply XH;(focus exact rfl);(focus first|exact hH|exact (z7 _ _));(focus exact rfl);(focus exact rfl))|(apply Ye;(focus exact rfl);(focus exact zrd);(focus exact zrd);(focus first|exact hH|exact (z7 _ _));(focus exact rfl);(focus exact rfl);(focus exact zrd))|(apply Vo;(focus first|exact (z3 _ _)))|(apply Y5;(focus first|exact (z3 _ _));(focus exact zrd))|((first|apply QC|apply Qr);(focus first|exact (z0 _ _ zsd zsd zsd).b|exact (z1 _ _ zsd).b|exact (z2 _ _ _ _ zsd zsd zsd).b|exact (z5 _ _ zsd zsd).b|exact (z6 _ _ _ _ zsd zsd zsd).b))|exact zsq|fail)
   all_goals exact zr
 ·rw [if_pos rfl] at hrun
  rcases hcl with ⟨g,hcl,hH⟩|⟨g,hcl,hH⟩
  ·repeat' (first|(refine zsk ?_;intro K' hK)|(refine zrg ?_;intro K' hK)|refine zsp ?_|(refine zsc ?_ ?_<;>intro hc<;>first|exact znh|try simp only [znz] at hc)|simp (maxSteps:=1000000) only [go_sem,Yo,fmB,ach,e4,hwj,hlo,hsl,Int.toNat_natCast,zq,hgj,Qq.v_def,Qq.cells,hxw,hnm,hcl]|(refine hK _ ?_;clear hK K')|apply zan|(apply akf;(focus exact rfl);(focus exact rfl);(focus first|exact hH);(focus exact rfl);(focus exact rfl))|(apply af7;(focus exact rfl);(focus exact rfl);(focus first|exact rfl|decide);(focus first|exact hH);(focus exact rfl);(focus exact rfl);(focus first|exact rfl|decide))|(apply XH;(focus exact rfl);(focus first|exact (z7 _ _));(focus exact rfl);(focus exact rfl))|(apply Ye;(focus exact rfl);(focus exact zrd);(focus exact zrd);(focus first|exact (z7 _ _));(focus exact rfl);(focus exact rfl);(focus exact zrd))|(apply Vo;(focus first|exact (z3 _ _)))|(apply Y5;(focus first|exact (z3 _ _));(focus exact zrd))|((first|apply QC|apply Qr);(focus first|exact (z0 _ _ zsd zsd zsd).b|exact (z1 _ _ zsd).b|exact (z2 _ _ _ _ zsd zsd zsd).b|exact (z5 _ _ zsd zsd).b|exact (z6 _ _ _ _ zsd zsd zsd).b))|exact zsq|fail)
   all_goals exact hL4 _ (j + 1,e') (Qp []) ⟨by simp only;omega,by rw [hrj];exact hrun⟩ (by simp only;omega) (JS [] (by simp only [go_sem,zwl,fmB,ach,JR]<;>exact zcc) (by simp only [go_sem,zwl,fmB,ach,JR,drC]<;>exact zcc) (by simp [fmB,Qp]) (by simp [fmB]) (by omega))
  ·repeat' (first|(refine zsk ?_;intro K' hK)|(refine zrg ?_;intro K' hK)|refine zsp ?_|(refine zsc ?_ ?_<;>intro hc<;>first|exact znh|try simp only [znz] at hc)|simp (maxSteps:=1000000) only [go_sem,Yo,fmB,ach,e4,hwj,hlo,hsl,Int.toNat_natCast,zq,hgj,Qq.v_def,Qq.cells,hxw,hnm,hcl]|(refine hK _ ?_;clear hK K')|apply zan|(apply XH;(focus exact rfl);(focus first|exact hH|exact (z7 _ _));(focus exact rfl);(focus exact rfl))|(apply Ye;(focus exact rfl);(focus exact zrd);(focus exact zrd);(focus first|exact hH|exact (z7 _ _));(focus exact rfl);(focus exact rfl);(focus exact zrd))|(apply Vo;(focus first|exact (z3 _ _)))|(apply Y5;(focus first|exact (z3 _ _));(focus exact zrd))|((first|apply QC|apply Qr);(focus first|exact (z0 _ _ zsd zsd zsd).b|exact (z1 _ _ zsd).b|exact (z2 _ _ _ _ zsd zsd zsd).b|exact (z5 _ _ zsd zsd).b|exact (z6 _ _ _ _ zsd zsd zsd).b))|exact zsq|fail)
   all_goals exact hL4 _ (j + 1,e') (Qp []) ⟨by simp only;omega,by rw [hrj];exact hrun⟩ (by simp only;omega) (JS [] (by simp only [go_sem,zwl,fmB,ach,JR]<;>exact zcc) (by simp only [go_sem,zwl,fmB,ach,JR,drC]<;>exact zcc) (by simp [fmB,Qp]) (by simp [fmB]) (by omega))
def wwd:List (List UInt8):=[[119,101,98],[119,101,98],[100,98]]
def aip (l:List Int) (k n:Nat):Qq×Nat :=
 let w:=XA l k UU
 let v:=alv l w.2 w.1
 let o:=QR l v.2 30
 (.mk (w.1 :: v.1) (o.1 == 30 - 1) [] (2 + (n:Int)),o.2)
def alC (l:List Int):Nat→Nat→List Qq→List Qq×Nat
 | 0,k,acc=>(acc,k)
 | n + 1,k,acc=>alC l n (aip l k acc.length).2 (acc++[(aip l k acc.length).1])
def agC (l:List Int) (k:Nat):Qq×Nat :=
 let s:=XA l k wwd
 let o:=QR l s.2 9
 let n:=QR l o.2 30
 let z:=QR l n.2 12
 let c:=QR l z.2 7
 let b:=if decide (o.1 > 0) = true then alC l c.1.toNat c.2 [] else ([],c.2)
 (.mk ([115,101,114,118,101,114] :: s.1 :: (if (z.1 == 12 - 1) = true then [[122]] else [])) (decide (o.1 > 0)) b.1 n.1,b.2)
def anB (l:List Int):Nat→Nat→List Qq→List Qq×Nat
 | 0,k,acc=>(acc,k)
 | n + 1,k,acc=>anB l n (agC l k).2 (acc++[(agC l k).1])
theorem apv {l:List Int} {k:Nat}:(XA l k UU).1.length≤1000:=(by decide:∀ x∈UU,x.length≤1000) _ (acs (by decide) (by decide))
theorem anF {l:List Int} {k n:Nat} (hk:k≤l.length):(aip l k n).1.Sm∧(aip l k n).2≤l.length:=by
 have k1:=K5 (l:=l) (xs:=UU) hk
 obtain ⟨v1,k2⟩:=alu (l:=l) (w:=(XA l k UU).1) k1
 have k3:=QS (l:=l) (n:=30) k2
 refine ⟨⟨?_,fun s hs=>?_⟩,k3⟩
 ·show (_ :: (alv l _ _).1).length < _
  have:=v1.h1
  simp only [List.length_cons];omega
 ·have hs:s∈(XA l k UU).1 :: (alv l (XA l k UU).2 (XA l k UU).1).1:=hs
  rcases zp.1 hs with rfl|hs
  ·exact kS apv (by decide)
  ·exact kS (v1.h2 s hs) (by decide)
theorem alB {l:List Int}:∀ {n k:Nat} {acc:List Qq},k≤l.length→(∀ x∈acc,x.Sm)→(∀ x∈(alC l n k acc).1,x.Sm)∧(alC l n k acc).1.length = acc.length + n∧(alC l n k acc).2≤l.length
 | 0,k,acc,hk,h=>⟨h,rfl,hk⟩
 | n + 1,k,acc,hk,h=>by
   obtain ⟨s1,s2⟩:=anF (l:=l) (n:=acc.length) hk
   rw [alC]
   obtain ⟨g1,g2,g3⟩:=alB (n:=n) (k:=(aip l k acc.length).2) (acc:=acc++[(aip l k acc.length).1]) s2 (fun x hx=>by
    rcases zX.1 hx with hx|hx
    ·exact h x hx
    ·rw [zO.1 hx];exact s1)
   exact ⟨g1,by rw [g2];simp;omega,g3⟩
theorem anA {l:List Int} {k:Nat} (hk:k≤l.length):(agC l k).1.Top∧(agC l k).2≤l.length:=by
 have k1:=K5 (l:=l) (xs:=wwd) hk
 have k2:=QS (l:=l) (n:=9) k1
 have k3:=QS (l:=l) (n:=30) k2
 have k4:=QS (l:=l) (n:=12) k3
 have k5:=QS (l:=l) (n:=7) k4
 have r5:=Q4 (l:=l) (k:=(QR l (QR l (QR l (XA l k wwd).2 9).2 30).2 12).2) (n:=7) (by omega) (by omega)
 rw [agC]
 generalize QR l (QR l (QR l (XA l k wwd).2 9).2 30).2 12 = z at *
 generalize QR l z.2 7 = c at *
 have hb:∀ b:List Qq×Nat,b = (if decide ((QR l (XA l k wwd).2 9).1 > 0) = true then alC l c.1.toNat c.2 [] else ([],c.2))→(∀ x∈b.1,x.Sm)∧b.1.length < 2 ^ 27∧b.2≤l.length:=by
  rintro b rfl
  split
  ·obtain ⟨g1,g2,g3⟩:=alB (l:=l) (n:=c.1.toNat) (k:=c.2) (acc:=[]) k5 (fun x hx=>by simp at hx)
   rw [List.length_nil] at g2
   exact ⟨g1,by omega,g3⟩
  ·exact ⟨fun x hx=>by simp at hx,by simp,k5⟩
 obtain ⟨h1,h2,h3⟩:=hb _ rfl
 refine ⟨⟨?_,h2,h1⟩,h3⟩
 show (_ :: _ :: (if (z.1 == 12 - 1) = true then [[122]] else [])).length < _
 split<;>simp
theorem alx {l:List Int}:∀ {n k:Nat} {acc:List Qq},k≤l.length→(∀ x∈acc,x.Top)→(∀ x∈(anB l n k acc).1,x.Top)∧(anB l n k acc).1.length = acc.length + n∧(anB l n k acc).2≤l.length
 | 0,k,acc,hk,h=>⟨h,rfl,hk⟩
 | n + 1,k,acc,hk,h=>by
   obtain ⟨s1,s2⟩:=anA (l:=l) hk
   rw [anB]
   obtain ⟨g1,g2,g3⟩:=alx (n:=n) (k:=(agC l k).2) (acc:=acc++[(agC l k).1]) s2 (fun x hx=>by
    rcases zX.1 hx with hx|hx
    ·exact h x hx
    ·rw [zO.1 hx];exact s1)
   exact ⟨g1,by rw [g2];simp;omega,g3⟩
theorem aok {l:List Qq} {name:List UInt8} {st:List Qv} (hn:name.length < 2 ^ 30) (ht:∀ x∈l,x.Top) (hs:∀ x∈st,x.Sm):∃ e n k,adO l name st = .tup [QM.v e,V.int n,V.int k]∧e.Sm:=by
 unfold adO
 split
 ·exact ⟨_,_,_,rfl,abe⟩
 split
 ·rename_i x hx
  have:=(ht x (List.mem_of_find?_eq_some hx)).s
  unfold aoC
  repeat' split
  ·exact ⟨_,_,_,rfl,abe⟩
  ·exact ⟨_,_,_,rfl,abe⟩
  ·exact ap3 (ao4 hs (fun y hy=>by obtain ⟨z,hz,rfl⟩:=kl.1 hy;exact amt (this z hz)) (aqg hn))
 ·exact ⟨_,_,_,rfl,abe⟩
def wcB:List Qq→V
 | []=>.sc (.slice none 0 0)
 | x :: r=>.hd 3 0 (x :: r).length
theorem abh {o:Nat→Option Ob} {br:List Nat} {B:Option (List Nat)} {ys zs:List V} (h:VY o br B ys zs):∀ l:List Qq,VY o br B (l.map Qq.v++ys) (l.map Qq.v++zs)
 | []=>h
 | x :: r=>⟨by rw [x.v_def];exact Qc _ _ _ _ x.cells_cl,abh h r⟩
theorem XG:∀ l:List Qq,UL (l.map Qq.v)
 | []=>trivial
 | x :: r=>⟨by rw [x.v_def];exact x.cells_cl,XG r⟩
theorem aci {o:Nat→Option Ob} {br:List Nat} {acc:List Qq} {ws:List (List UInt8)} {op:Bool} {sub:List Qq} {ln:Int} {cell:V} (h:conv o br none cell (.sl 4 (sub.map Qq.v))):VY o br none (acc.map Qq.v++[.agg [.sl 1 (ws.map V.str),V.bool op,cell,V.int ln]]) ((acc++[Qq.mk ws op sub ln]).map Qq.v):=by
 rw [zG]
 refine abh (ys:=[.agg [.sl 1 (ws.map V.str),V.bool op,cell,V.int ln]]) (zs:=[(Qq.mk ws op sub ln).v]) ?_ acc
 refine ⟨?_,trivial⟩
 rw [Qq.v_def]
 exact ⟨Ql _ _ _ (.sl _ _) trivial,Ql _ _ _ (V.bool _) trivial,h,Ql _ _ _ (V.int _) trivial,trivial⟩
theorem ajk {o:Nat→Option Ob} {br:List Nat} {acc:List Qq} {n:Nat} {ws:List (List UInt8)} {op:Bool} {ln:Int} (h:o n = some (.buf true 1 (ws.map V.str))) (hn:n ∉ br):VY o br none (acc.map Qq.v++[.agg [.hd n 0 ws.length,V.bool op,.sc (.slice none 0 0),V.int ln]]) ((acc++[Qq.mk ws op [] ln]).map Qq.v):=by
 rw [zG]
 refine abh (ys:=[.agg [.hd n 0 ws.length,V.bool op,.sc (.slice none 0 0),V.int ln]]) (zs:=[(Qq.mk ws op [] ln).v]) ?_ acc
 refine ⟨?_,trivial⟩
 rw [Qq.v_def]
 exact ⟨qS h hn,Ql _ _ _ (V.bool _) trivial,by simp [conv,Qq.sub],Ql _ _ _ (V.int _) trivial,trivial⟩
end Av
end
