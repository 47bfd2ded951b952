/- K21 -/
import Derived.Test.YtjobognfgjobfaaGreatDoorK20
import Derived.Test.YtjobognfgjobfaaGreatDoorK12
import Derived.Test.YtjobognfgjobfaaGreatDoorK13
import Derived.Test.YtjobognfgjobfaaGreatDoorK18
set_option linter.unusedVariables false
set_option linter.unusedSimpArgs false
noncomputable section
set_option maxRecDepth 10000
set_option maxHeartbeats 4000000
namespace Av
open Go
attribute [local irreducible] AWp WC wb aai awS awC aeM awQ afz Jk qV aes awR jj awB okR aaf ris
def Xa:=qd Proofs.Tryz.f282 []
def Wb (Γ:Env) (f:Nat):Prop:=∀ (x:Int) (m:List Int) (hm2:m.length < 2 ^ 62),EvN Γ f [V.int x,.ro [.sl 1 (m.map V.int)] 0] (V.bool (m.contains x))
theorem vR {Γ:Env} {f:Nat} (h:Has Γ.P f 7 Xa.1.1.ac Xa.1.2) (z0:QN Γ 182):Wb Γ f:=by
 intro x m hm2
 refine Qc h zsi zcl zcl fun C hC hm=>?_
 subst hC
 simp only [Xa,qd,DC.ac]
 have e:decide (VB x 0 m≥0) = m.contains x:=by
  have:=vQ x m 0
  rw [Zq];simp only [zC,ZR];exact this
 (have zx:=e);refine zgo ?_;repeat' first|exact zt|apply zan|intro hc
 all_goals (refine Qg _ rfl ?_;simp only [go_sem])
theorem avY (c:UInt8):decide (Lib.indexByte [45,33,43] c≥0) = decide (c = 45∨c = 33∨c = 43):=by
 by_cases h1:c = 45
 ·subst h1;decide
 ·by_cases h2:c = 33
  ·subst h2;decide
  ·by_cases h3:c = 43
   ·subst h3;decide
   ·have:Lib.indexByte [45,33,43] c = -1:=by
     simp [Lib.indexByte,Ne.symm h1,Ne.symm h2,Ne.symm h3]
    rw [this];simp [h1,h2,h3]
def sgn (c:UInt8):List UInt8:=if c = 0 then [] else [c]
theorem agw {p:Int→Bool} {l:List Int} {k:Nat} {x:Int} (h:l[k]? = some x):(l.take (k + 1)).filter p = (l.take k).filter p++(if p x = true then [x] else []):=by
 rw [zB,h,kU]
 congr 1
 by_cases hx:p x = true<;>simp [hx]
def XL:=qd Proofs.Tryz.f236 [⟨fun _=>false,[6,7],.one 0 (.one 1 (.one 2 (.one 3 (.one 4 (.one 5 (.or 6 (.one 7 (.one 8 (.one 9 (.one 10 (.one 11 (.one 12 (.one 13 (.one 14 (.done))))))))) (.or 7 (.one 6 (.one 8 (.one 9 (.one 10 (.one 11 (.one 12 (.one 13 (.one 14 (.done))))))))) (.done))))))))⟩,zhn 6]
def WX (Γ:Env) (f:Nat):Prop:=∀ (w:List UInt8) (l k:List Int) (hw:w.length < 2 ^ 30) (hr:anY (l,k)) (hk:k.length < 2 ^ 30),EvT Γ f [V.str w] 1 1 (l.map V.int) (k.map V.int) (V.bool (wordOk w)) (((if wordOk w then doR w (l,k) else (l,k)).1).map V.int) (((if wordOk w then doR w (l,k) else (l,k)).2).map V.int)
attribute [local go_sem] zG Zx QS in
theorem aa7 {Γ:Env} {f:Nat} (h:Has Γ.P f 129 XL.1.1.ac XL.1.2) (z0:ju Γ 281) (z1:Un Γ 227) (z2:UU Γ 94) (z3:Wb Γ 282) (z4:QN Γ 182):WX Γ f:=by
 intro w l k hw hr hk
 refine aif h (by simp) (by simp only [V.closed,Qb,V.noSl,Wi,and_self,and_true,true_and]) fun C hC hm=>?_
 subst hC
 simp only [XL,qd,DC.ac]
 have hl16:l.length≤16:=hr.len
 by_cases h0:w = auG
 ·have e1:wordOk w = true:=by simp [wordOk,h0]
  have e2:doR w (l,k) = (aj6 l,k):=by simp [doR,h0]
  rw [e1,if_pos rfl,e2]
  have e3:(w == [64,115,116,114,101,110,103,116,104]) = true:=by simp [h0,auG]
  (have zx:=e3);refine zgo ?_;repeat' first|exact zt|apply zan|intro hc
  all_goals first
   | (refine aep _ _ _ _ _ rfl (by simp only [go_sem]) rfl rfl rfl (by decide) (by decide) (by decide) ⟨_,rfl⟩ ⟨_,rfl⟩ ?_ ?_ ?_ ?_<;>first|rfl|(simp;done))
 ·have e3:(w == [64,115,116,114,101,110,103,116,104]) = false:=aqU h0
  have ed:doR w (l,k) = doG (Us w).1 (ag9 (Us w).2).1 (l,k):=by rw [doR,aqU h0];rfl
  have eo:wordOk w = (ag9 (Us w).2).2:=by rw [wordOk,aqU h0,Bool.false_or]
  have hlen:(Us w).2.length≤w.length:=by
   cases w with
   | nil=>simp [Us]
   | cons c r=>rw [abS];split<;>simp
  have hs:=(z2 (Us w).2 (by omega)).b
  have hsl:=aod (Us w).2
  have hnd:=aq0 (Us w).2
  rw [ed,eo]
  refine aer fun K' hK=>?_
  simp (maxSteps:=1000000) only [go_sem]
  refine hK _ ?_
  clear hK
  clear K'
  (try simp only [go_sem])
  refine ab6 ?_
  refine aer fun K' hK=>?_
  simp (maxSteps:=1000000) only [go_sem,e3]
  refine hK _ ?_
  clear hK
  clear K'
  (try simp only [go_sem])
  refine ahi ⟨_,rfl,fun hc=>Bool.noConfusion hc,fun hc=>?_⟩
  refine ao3 ?_
  (try simp only [go_sem])
  refine aer fun K' hK=>?_
  simp (maxSteps:=1000000) only [go_sem]
  refine hK _ ?_
  clear hK
  clear K'
  (try simp only [go_sem])
  have hcut:∃ good:Unit→Prop,good ()∧True:=⟨fun _=>True,trivial,trivial⟩
  refine KZ (ι:=Unit) (fun _=>True) (fun _=>QS [(0,.ptr 0 0),(1,V.str (Us w).2),(5,V.str (sgn (Us w).1))] [(0,.box true [.hd 3 0 (l.map V.int).length,.hd 4 0 (k.map V.int).length]),(1,.dead),(2,.dead),(3,.buf true 1 (l.map V.int)),(4,.buf true 1 (k.map V.int))] 5) (fun K' hK'=>?_) (fun _ _=>?_)
  ·rcases w with _|⟨c,r⟩
   ·refine zgo ?_;repeat' first|exact zt|apply zan|intro hc
    all_goals exact hK' _ () (Qd []) trivial (zwg [])
   ·have hib:=avY c
    by_cases hc:c = 45∨c = 33∨c = 43
    ·have hsv:Us (c :: r) = (c,r):=by rw [abS,if_pos hc]
     rw [zn hc] at hib
     have hsg:sgn c = [c]:=by rw [sgn,if_neg];rintro rfl;simp at hc
     have e4:(c :: r != []) = true:=rfl
     simp only [hsv,hsg] at hK'
     (have zx:=za hib e4);refine zgo ?_;repeat' first|exact zt|apply zan|intro hc
     all_goals exact hK' _ () (Qd []) trivial (zwg [])
    ·have hsv:Us (c :: r) = (0,c :: r):=by rw [abS,if_neg hc]
     have hsg:sgn 0 = []:=rfl
     rw [zp hc] at hib
     simp only [hsv,hsg] at hK'
     have e4:(c :: r != []) = true:=rfl
     (have zx:=za hib e4);refine zgo ?_;repeat' first|exact zt|apply zan|intro hc
     all_goals exact hK' _ () (Qd []) trivial (zwg [])
  ·have hcase:(Us w).1 = 0∨(Us w).1 = 45∨(Us w).1 = 33∨(Us w).1 = 43:=by
    cases w with
    | nil=>exact .inl rfl
    | cons c r =>
      rw [abS];split
      ·rename_i h;exact .inr h
      ·exact .inl rfl
   generalize Us w = sv at *
   obtain ⟨sg,v⟩:=sv
   simp only at hs hsl hnd hlen hcase ⊢
   generalize ag9 v = S at *
   obtain ⟨m,ok⟩:=S
   simp only at hs hsl hnd ⊢
   rcases ok with _|_
   ·simp only [zu,if_false]
    refine zgo ?_;repeat' first|exact zt|apply zan|intro hc
    all_goals first
     | (refine aep _ _ _ _ _ rfl (by simp only [go_sem]) rfl rfl rfl (by decide) (by decide) (by decide) ⟨_,rfl⟩ ⟨_,rfl⟩ ?_ ?_ ?_ ?_<;>first|rfl|(simp;done))
   ·simp only [if_true]
    repeat' (first|(refine zsk ?_;intro K' hK)|(refine zrg ?_;intro K' hK)|refine zsp ?_|(refine zsc ?_ ?_<;>intro hc<;>first|exact znh|try simp only [znz] at hc)|simp (maxSteps:=1000000) only [go_sem,QS]|(refine hK _ ?_;clear hK K')|apply zan|((first|apply K0|apply Vv);(focus first|exact (z0 _ zsd)))|((first|apply QA|apply Q3);(focus first|exact hs|exact (z1 _ _).b|exact (z2 _ zsd).b|exact (z3 _ _ zsd).b|exact (z4 _ _ zsd).b))|exact zsq|fail)
    refine Qj (ι:=Nat) (fun j=>j≤l.length) (fun j=>QS [(0,.ptr 0 0),(5,V.str (sgn sg)),(6,.ptr 5 0),(8,.clo (.n 282) [.ptr 5 0]),(9,.hd 6 0 ((l.take j).filter fun x=>m.contains x).length),(10,.hd 7 0 (Qm (l.take j) m).length),(48,.hd 3 0 (l.map V.int).length),(49,V.int (l.map V.int).length),(50,V.int j)] [(0,.box true [.hd 3 0 (l.map V.int).length,.hd 4 0 (k.map V.int).length]),(1,.dead),(2,.dead),(3,.buf true 1 (l.map V.int)),(4,.buf true 1 (k.map V.int)),(5,.box true [.sl 1 (m.map V.int)]),(6,.buf true 1 (((l.take j).filter fun x=>m.contains x).map V.int)),(7,.buf true 1 ((Qm (l.take j) m).map V.int))] 8) (fun j=>l.length - j) 0 (by omega) (Qd [(5,5005),(6,12005),(7,13005)]) (zwg [(5,5005),(6,12005),(7,13005)]) fun j hj K' hL=>?_
    rcases hd:l.drop j with _|⟨x,r⟩
    ·have hjl:=Qu hd
     have hj0:j = l.length:=by omega
     subst hj0
     have e1:decide ((l.length:Int) < (((l.map V.int).length:Nat):Int)) = false:=by simp
     have hw1:=Vr l m
     have hw2:(l.filter fun x=>m.contains x).length≤l.length:=kJ _ _
     have hcat:Qm l m++(l.filter fun x=>m.contains x) = Qm l m++Qm l (Qm l m):=by
      congr 1
      unfold Qm
      refine List.filter_congr fun x hx=>?_
      cases hm:m.contains x<;>simp_all
     rw [zG]
     generalize hmv:(l.filter fun x=>m.contains x) = mv at *
     rcases hcase with rfl|rfl|rfl|rfl
     ·have hd0:doG 0 m (l,k) = (l++Qm (Qm m l) k,k):=rfl
      have hs0:sgn 0 = []:=rfl
      rw [hd0,hs0]
      repeat' (first|(refine zsk ?_;intro K' hK)|(refine zrg ?_;intro K' hK)|refine zsp ?_|(refine zsc ?_ ?_<;>intro hc<;>first|exact znh|try simp only [znz] at hc)|simp (maxSteps:=1000000) only [go_sem,QS,e1]|(refine hK _ ?_;clear hK K')|apply zan|((first|apply K0|apply Vv);(focus first|exact (z0 _ zsd)))|((first|apply QA|apply Q3);(focus first|exact (z1 _ _).b|exact (z2 _ zsd).b|exact (z3 _ _ zsd).b|exact (z4 _ _ zsd).b))|exact zsq|fail)
      refine Qj (ι:=Nat) (fun i=>i≤m.length) (fun i=>QS [(0,.ptr 0 0),(67,.sl 1 (m.map V.int)),(68,V.int (m.map V.int).length),(69,V.int i)] [(0,.box true [.hd 3 0 (l++Qm (Qm (m.take i) l) k).length,.hd 4 0 (k.map V.int).length]),(1,.dead),(2,.dead),(3,.buf true 1 ((l++Qm (Qm (m.take i) l) k).map V.int)),(4,.buf true 1 (k.map V.int))] 5) (fun i=>m.length - i) 0 (by omega) (Qd []) (Qh [] zwa (by simp only [go_sem,zwl];simp only [List.take_zero,Qm,List.filter_nil,ka,zb];(repeat' (first|rfl|apply za|omega|exact fun h=>h|exact Exists.intro _ rfl))) (by simp [Qd]) (by simp) (by omega)) fun i hi K' hL=>?_
      rcases hdi:m.drop i with _|⟨c,r⟩
      ·have hil:=Qu hdi
       have e2:decide ((i:Int) < (((m.map V.int).length:Nat):Int)) = false:=by simp;omega
       have e3:m.take i = m:=zi hil
       rw [e3]
       repeat' (first|(refine zsk ?_;intro K' hK)|(refine zrg ?_;intro K' hK)|refine zsp ?_|(refine zsc ?_ ?_<;>intro hc<;>first|exact znh|try simp only [znz] at hc)|simp (maxSteps:=1000000) only [go_sem,QS,e2]|(refine hK _ ?_;clear hK K')|apply zan|((first|apply K0|apply Vv);(focus first|exact (z0 _ zsd)))|((first|apply QA|apply Q3);(focus first|exact (z1 _ _).b|exact (z2 _ zsd).b|exact (z3 _ _ zsd).b|exact (z4 _ _ zsd).b))|exact zsq|fail)
       all_goals first
        | (refine aep _ _ _ _ _ rfl (by simp only [go_sem]) rfl rfl rfl (by decide) (by decide) (by decide) ⟨_,rfl⟩ ⟨_,rfl⟩ ?_ ?_ ?_ ?_<;>first|rfl|(simp;done))
      ·obtain ⟨hi',hgi,hri⟩:=Qq hdi
       have hwi:=Qe (k:=i) (by omega)
       have e2:decide ((i:Int) < (((m.map V.int).length:Nat):Int)) = true:=by simp;omega
       have ha:=ado (m:=l) hgi
       have hnc:c ∉ m.take i:=by
        intro h
        have h2:m.take i++c :: r = m:=by rw [← hdi,kh]
        rw [← h2] at hnd
        exact (Zd.1 hnd).2.2 c h c (by simp) rfl
       have hal:(Qm (Qm (m.take i) l) k).length≤16:=by
        have q1:=Vr (Qm (m.take i) l) k
        have q2:=Vr (m.take i) l
        rw [zU] at q2;omega
       have hin:c∈l++Qm (Qm (m.take i) l) k↔c∈l:=by
        rw [zP]
        exact ⟨fun h=>h.elim id fun h=>absurd (YR.1 (YR.1 h).1).1 hnc,Or.inl⟩
       have hf1:=vQ c (l++Qm (Qm (m.take i) l) k) 0
       have hf2:=vQ c k 0
       have hc1:=(z4 (l++Qm (Qm (m.take i) l) k) c (by rw [zv];omega)).b
       have hc2:=(z4 k c (by omega)).b
       by_cases hcl:c∈l
       ·rw [zn (hf1.2 (hin.2 hcl))] at hc1
        rw [if_pos (by simpa using hcl),ka] at ha
        rw [← ha] at hc1 ⊢
        repeat' (first|(refine zsk ?_;intro K' hK)|(refine zrg ?_;intro K' hK)|refine zsp ?_|(refine zsc ?_ ?_<;>intro hc<;>first|exact znh|try simp only [znz] at hc)|simp (maxSteps:=1000000) only [go_sem,QS,e2,hwi,Int.toNat_natCast,zo,hgi,zG,aeO]|(refine hK _ ?_;clear hK K')|apply zan|((first|apply K0|apply Vv);(focus first|exact (z0 _ zsd)))|((first|apply QA|apply Q3);(focus first|exact hc1|exact (z1 _ _).b|exact (z2 _ zsd).b|exact (z3 _ _ zsd).b|exact (z4 _ _ zsd).b))|exact zsq|fail)
        all_goals first
         | exact hL _ (i + 1) (Qd []) (by omega) (by omega) (zwg [])
       ·rw [zp (fun h=>hcl (hin.1 (hf1.1 h)))] at hc1
        rw [if_neg (by simpa using hcl)] at ha
        by_cases hck:c∈k
        ·have hb:Qm (Qm (m.take (i + 1)) l) k = Qm (Qm (m.take i) l) k:=by
          rw [ha,Qm,kU];simp [hck,Qm]
         rw [zn (hf2.2 hck)] at hc2
         rw [← hb] at hc1 ⊢
         repeat' (first|(refine zsk ?_;intro K' hK)|(refine zrg ?_;intro K' hK)|refine zsp ?_|(refine zsc ?_ ?_<;>intro hc<;>first|exact znh|try simp only [znz] at hc)|simp (maxSteps:=1000000) only [go_sem,QS,e2,hwi,Int.toNat_natCast,zo,hgi,zG,aeO]|(refine hK _ ?_;clear hK K')|apply zan|((first|apply K0|apply Vv);(focus first|exact (z0 _ zsd)))|((first|apply QA|apply Q3);(focus first|exact hc1|exact hc2|exact (z1 _ _).b|exact (z2 _ zsd).b|exact (z3 _ _ zsd).b|exact (z4 _ _ zsd).b))|exact zsq|fail)
         all_goals first
          | exact hL _ (i + 1) (Qd []) (by omega) (by omega) (zwg [])
        ·have hb:l++Qm (Qm (m.take (i + 1)) l) k = (l++Qm (Qm (m.take i) l) k)++[c]:=by
          rw [ha,Qm,kU];simp [hck,Qm]
         rw [zp (fun h=>hck (hf2.1 h))] at hc2
         have hacc:(l++Qm (Qm (m.take i) l) k).length≤32:=by rw [zv];omega
         generalize l++Qm (Qm (m.take i) l) k = acc at *
         have hb2:List.take acc.length (List.map V.int acc)++[V.int c] = (acc++[c]).map V.int:=by
          rw [zi (by simp),kj];rfl
         have hln:acc.length + 1 = (acc++[c]).length:=by simp
         repeat' (first|(refine zsk ?_;intro K' hK)|(refine zrg ?_;intro K' hK)|refine zsp ?_|(refine zsc ?_ ?_<;>intro hc<;>first|exact znh|try simp only [znz] at hc)|simp (maxSteps:=1000000) only [go_sem,QS,e2,hwi,Int.toNat_natCast,zo,hgi,zG,aeO]|(refine hK _ ?_;clear hK K')|apply zan|((first|apply K0|apply Vv);(focus first|exact (z0 _ zsd)))|((first|apply QA|apply Q3);(focus first|exact hc1|exact hc2|exact (z1 _ _).b|exact (z2 _ zsd).b|exact (z3 _ _ zsd).b|exact (z4 _ _ zsd).b))|exact zsq|fail)
         all_goals first
          | (have hb3:List.map V.int acc++[V.sc (Value.int .i64 c)] = (acc++[c]).map V.int:=by simp
             rw [hb3,hln]
             refine hL _ (i + 1) (Qd [(3,27005)]) (by omega) (by omega) ?_
             rw [hb]
             exact zwg [(3,27005)])
          | (simp only [zv] at *;omega)
     ·have hd0:doG 45 m (l,k) = (Qm l m,k):=rfl
      have hs0:sgn 45 = [45]:=rfl
      rw [hd0,hs0]
      repeat' (first|(refine zsk ?_;intro K' hK)|(refine zrg ?_;intro K' hK)|refine zsp ?_|(refine zsc ?_ ?_<;>intro hc<;>first|exact znh|try simp only [znz] at hc)|simp (maxSteps:=1000000) only [go_sem,QS,e1]|(refine hK _ ?_;clear hK K')|apply zan|((first|apply K0|apply Vv);(focus first|exact (z0 _ zsd)))|((first|apply QA|apply Q3);(focus first|exact (z1 _ _).b|exact (z2 _ zsd).b|exact (z3 _ _ zsd).b|exact (z4 _ _ zsd).b))|exact zsq|fail)
      all_goals first
       | (refine aep _ _ _ _ _ rfl (by simp only [go_sem]) rfl rfl rfl (by decide) (by decide) (by decide) ⟨_,rfl⟩ ⟨_,rfl⟩ ?_ ?_ ?_ ?_<;>first|rfl|(simp;done))
     ·have hd0:doG 33 m (l,k) = (Qm l m,k++m):=rfl
      have hs0:sgn 33 = [33]:=rfl
      rw [hd0,hs0]
      repeat' (first|(refine zsk ?_;intro K' hK)|(refine zrg ?_;intro K' hK)|refine zsp ?_|(refine zsc ?_ ?_<;>intro hc<;>first|exact znh|try simp only [znz] at hc)|simp (maxSteps:=1000000) only [go_sem,QS,e1,zG]|(refine hK _ ?_;clear hK K')|apply zan|((first|apply K0|apply Vv);(focus first|exact (z0 _ zsd)))|((first|apply QA|apply Q3);(focus first|exact (z1 _ _).b|exact (z2 _ zsd).b|exact (z3 _ _ zsd).b|exact (z4 _ _ zsd).b))|exact zsq|fail)
      all_goals first
       | (refine aep _ _ _ _ _ rfl (by simp only [go_sem]) rfl rfl rfl (by decide) (by decide) (by decide) ⟨_,rfl⟩ ⟨_,rfl⟩ ?_ ?_ ?_ ?_<;>first|rfl|(simp;done))
     ·have hd0:doG 43 m (l,k) = (Qm l m++Qm l (Qm l m),k):=rfl
      have hs0:sgn 43 = [43]:=rfl
      rw [hd0,hs0,← hcat]
      repeat' (first|(refine zsk ?_;intro K' hK)|(refine zrg ?_;intro K' hK)|refine zsp ?_|(refine zsc ?_ ?_<;>intro hc<;>first|exact znh|try simp only [znz] at hc)|simp (maxSteps:=1000000) only [go_sem,QS,e1,aeO]|(refine hK _ ?_;clear hK K')|apply zan|((first|apply K0|apply Vv);(focus first|exact (z0 _ zsd)))|((first|apply QA|apply Q3);(focus first|exact (z1 _ _).b|exact (z2 _ zsd).b|exact (z3 _ _ zsd).b|exact (z4 _ _ zsd).b))|exact zsq|fail)
      all_goals first
       | (refine aep _ _ _ _ _ rfl (by simp only [go_sem]) rfl rfl rfl (by decide) (by decide) (by decide) ⟨_,rfl⟩ ⟨_,rfl⟩ ?_ ?_ ?_ ?_<;>first|rfl|(simp;done))
    ·obtain ⟨hj',hget,hr'⟩:=Qq hd
     have hwj:=Qe (k:=j) (by omega)
     have e1:decide ((j:Int) < (((l.map V.int).length:Nat):Int)) = true:=by simp;omega
     have h1:=ado (m:=m) hget
     have h2:=agw (p:=fun x=>m.contains x) hget
     have hl1:(Qm (l.take j) m).length≤16:=by have:=Vr (l.take j) m;rw [zU] at this;omega
     have hl2:((l.take j).filter fun x=>m.contains x).length≤16:=by have:=kJ (fun x=>m.contains x) (l.take j);rw [zU] at this;omega
     have hcl:=(z3 x m (by omega)).b
     generalize Qm (l.take j) m = rs at *
     generalize (l.take j).filter (fun x=>m.contains x) = mv at *
     rcases hx:m.contains x with _|_
     ·rw [hx] at h1 h2 hcl
      simp only [zu,if_false,ka] at h1 h2
      have hb:List.take rs.length (List.map V.int rs)++[V.int x] = (rs++[x]).map V.int:=by
       rw [zi (by simp),kj];rfl
      have hln:rs.length + 1 = (rs++[x]).length:=by simp
      repeat' (first|(refine zsk ?_;intro K' hK)|(refine zrg ?_;intro K' hK)|refine zsp ?_|(refine zsc ?_ ?_<;>intro hc<;>first|exact znh|try simp only [znz] at hc)|simp (maxSteps:=1000000) only [go_sem,QS,e1,hwj,Int.toNat_natCast,zo,hget]|(refine hK _ ?_;clear hK K')|apply zan|((first|apply K0|apply Vv);(focus first|exact (z0 _ zsd)))|((first|apply QA|apply Q3);(focus first|exact hcl|exact (z1 _ _).b|exact (z2 _ zsd).b|exact (z3 _ _ zsd).b|exact (z4 _ _ zsd).b))|exact zsq|fail)
      rw [hb,hln]
      refine hL _ (j + 1) (Qd [(7,10008)]) (by omega) (by omega) ?_
      rw [h1,h2]
      exact zwg [(7,10008)]
     ·rw [hx] at h1 h2 hcl
      simp only [if_true,ka] at h1 h2
      have hb:List.take mv.length (List.map V.int mv)++[V.int x] = (mv++[x]).map V.int:=by
       rw [zi (by simp),kj];rfl
      have hln:mv.length + 1 = (mv++[x]).length:=by simp
      repeat' (first|(refine zsk ?_;intro K' hK)|(refine zrg ?_;intro K' hK)|refine zsp ?_|(refine zsc ?_ ?_<;>intro hc<;>first|exact znh|try simp only [znz] at hc)|simp (maxSteps:=1000000) only [go_sem,QS,e1,hwj,Int.toNat_natCast,zo,hget]|(refine hK _ ?_;clear hK K')|apply zan|((first|apply K0|apply Vv);(focus first|exact (z0 _ zsd)))|((first|apply QA|apply Q3);(focus first|exact hcl|exact (z1 _ _).b|exact (z2 _ zsd).b|exact (z3 _ _ zsd).b|exact (z4 _ _ zsd).b))|exact zsq|fail)
      rw [hb,hln]
      refine hL _ (j + 1) (Qd [(6,10008)]) (by omega) (by omega) ?_
      rw [h1,h2]
      exact zwg [(6,10008)]
def VK:=qd Proofs.Tryz.f180 []
def qk (Γ:Env) (f:Nat):Prop:=∀ (s:List UInt8) (hs:s.length < 2 ^ 30),EvC Γ f [V.str s] (acq (vL s))
attribute [local go_sem] QS in
theorem adU {Γ:Env} {f:Nat} (h:Has Γ.P f 39 VK.1.1.ac VK.1.2) (z0:UV Γ 51) (z1:XC Γ 52) (z2:WX Γ 236):qk Γ f:=by
 intro s hs
 refine Q0 h zsi (ake _) fun C hC hm=>?_
 subst hC
 simp only [VK,qd,DC.ac]
 have hct:=(z0 s 58 (by omega)).b
 have hsp:=(z1 s 58 (by omega)).b
 have hpos:1≤(QK 58 s).length:=by
  have:QK 58 s≠[]:=adt _ _ _
  rcases h:QK 58 s with _|⟨a,b⟩
  ·exact absurd h this
  ·simp
 by_cases h1:s.length > 8192
 ·have e1:decide ((s.length:Int) > 8192) = true:=by simp;omega
  have e2:vL s = ([],0,3):=by rw [vL,if_pos h1]
  rw [e2,acq]
  (have zx:=e1);refine zgo ?_;repeat' first|exact zt|apply zan|intro hc
  all_goals (refine Qg _ rfl ?_;simp only [go_sem];first|done|rfl|exact ⟨_,_,rfl⟩|trace_state)
 ·have e1:decide ((s.length:Int) > 8192) = false:=by simp;omega
  by_cases h2:s = []
  ·subst h2
   have e2:vL [] = ([],0,0):=rfl
   have e4:decide (((((QK 58 []).length - 1:Nat)):Int)≥200) = false:=rfl
   rw [e2,acq]
   (have zx:=za e1 e4);refine zgo ?_;repeat' first|exact zt|apply zan|intro hc
   all_goals (refine Qg _ rfl ?_;simp only [go_sem];first|done|rfl|exact ⟨_,_,rfl⟩|trace_state)
  ·have e3:(s == []) = false:=by simpa using h2
   have hmem:∀ w∈QK 58 s,w.length < 2 ^ 30:=fun w hw=>by have:=aeP hw;omega
   have hlen:=abR 58 s
   by_cases h3:(QK 58 s).length > 200
   ·have e2:vL s = ([],0,3):=by rw [vL,if_neg h1,if_neg h2,if_pos h3]
    have e4:decide (((((QK 58 s).length - 1:Nat)):Int)≥200) = true:=by simp;omega
    rw [e2,acq]
    (have zx:=za e1 (za e3 e4));refine zgo ?_;repeat' first|exact zt|apply zan|intro hc
    all_goals (refine Qg _ rfl ?_;simp only [go_sem];first|done|rfl|exact ⟨_,_,rfl⟩|trace_state)
   ·have e2:vL s = goP (QK 58 s) 0 ([],[]):=by rw [vL,if_neg h1,if_neg h2,if_neg h3]
    have e4:decide (((((QK 58 s).length - 1:Nat)):Int)≥200) = false:=by simp;omega
    rw [e2,acq]
    generalize QK 58 s = ws at *
    (have zx:=za e1 (za e3 e4));refine zgo ?_;repeat' first|exact zt|apply zan|intro hc
    refine amz 14000 0 1 rfl rfl ?_
    refine amz 14000 1 1 rfl rfl ?_
    refine Qj (ι:=Nat×asX) (fun q=>q.1≤ws.length∧anY q.2∧q.2.2.length≤16 * q.1∧goP (ws.drop q.1) q.1 q.2 = goP ws 0 ([],[]))
     (fun q=>QS [(5,.ptr 0 0),(21,.sl 1 (ws.map V.str)),(22,V.int (ws.map V.str).length),(23,V.int q.1)] [(0,.box true [.hd 1 0 (q.2.1.map V.int).length,.hd 2 0 (q.2.2.map V.int).length]),(1,.buf true 1 (q.2.1.map V.int)),(2,.buf true 1 (q.2.2.map V.int))] 3)
     (fun q=>ws.length - q.1) (0,[],[]) ⟨by simp,avt,by simp,by simp⟩ (Qd [(0,14000),(1,20000),(2,20001)]) (Qh [(0,14000),(1,20000),(2,20001)] zwa (by simp only [List.set_cons_zero,List.set_cons_succ,Nat.reduceAdd];simp only [go_sem,zwl];(repeat' (first|rfl|apply za|omega|exact fun h=>h|exact Exists.intro _ rfl))) (by simp [Qd]) (by simp;omega) (by omega)) fun q hq K' hL=>?_
    obtain ⟨k,l,m⟩:=q
    obtain ⟨q1,q2,q3,hinv⟩:=hq
    simp only at q1 q2 q3 hinv
    simp only
    rcases hd:ws.drop k with _|⟨w,r⟩
    ·have hk:=Qu hd
     rw [hd,goP] at hinv
     rw [← hinv]
     have e5:decide ((k:Int) < (((ws.map V.str).length:Nat):Int)) = false:=by simp;omega
     simp only [acq]
     (have zx:=e5);refine zgo ?_;repeat' first|exact zt|apply zan|intro hc
     all_goals (refine Qg _ rfl ?_;simp only [go_sem];rw [zi (by simp)])
    ·obtain ⟨hk',hget,hr⟩:=Qq hd
     have hwm:=hmem w (zq hget)
     have hw:=Qe (k:=k) (by omega)
     have e5:decide ((k:Int) < (((ws.map V.str).length:Nat):Int)) = true:=by simp;omega
     rw [hd,goP] at hinv
     have hdo:=z2 w l m hwm q2 (by omega)
     have hdl:=awi w (l,m)
     have hdo2:=axF w (l,m) q2
     rcases ho:wordOk w with _|_
     ·rw [ho] at hinv hdo
      simp only [zu,if_false] at hinv hdo
      rw [← hinv]
      simp only [acq]
      (have zx:=za e5 (za hw hget));refine zgo ?_;repeat' first|exact zt|apply zan|intro hc
      all_goals (refine Qg _ rfl ?_;simp only [go_sem];first|done|rfl|exact ⟨_,_,rfl⟩|trace_state)
     ·rw [ho] at hinv hdo
      simp only [if_true] at hinv hdo
      generalize doR w (l,m) = p at *
      obtain ⟨l2,m2⟩:=p
      simp only at hdo hdl hinv
      (have zx:=za e5 (za hw hget));refine zgo ?_;repeat' first|exact zt|apply zan|intro hc
      refine hL _ (k + 1,l2,m2) (Qd [(1,8003),(2,8004)]) ⟨by simp only;omega,hdo2,by simp only;omega,by simp only;rw [hr];exact hinv⟩ (by simp only;omega) (zwg [(1,8003),(2,8004)])
def Q1 (l:List Int) (k:Nat):List V:=[.sl 1 (l.map V.int),V.int k]
theorem QG (l:List Int) (k:Nat):Qb (Q1 l k):=by simp only [Q1,V.closed,Qb,and_self]
def Qt (l:List Int) (k:Nat) (n:Int):Int×Nat:=if k < l.length then (auQ (l.getD k 0) n,k + 1) else (0,k)
theorem Q7 {l:List Int} {k:Nat} {n:Int} (hk:k≤l.length):(Qt l k n).2≤l.length:=by
 unfold Qt;split
 ·show k + 1≤l.length;omega
 ·exact hk
theorem apL {a n:Int} (h1:1≤n) (h2:n < 2 ^ 62):0≤auQ a n∧auQ a n < n:=by
 unfold auQ
 rw [if_neg (by omega)]
 have ha:=Int.tmod_lt_of_pos a (show 0 < n by omega)
 have hb:-n < a.tmod n:=by
  have:=Int.tmod_lt_of_pos (-a) (show 0 < n by omega)
  rw [Int.neg_tmod] at this;omega
 rw [Jc (by omega) (by omega)]
 exact ⟨Int.tmod_nonneg _ (by omega),Int.tmod_lt_of_pos _ (by omega)⟩
theorem Qz {l:List Int} {k:Nat} {n:Int} (h1:1≤n) (h2:n < 2 ^ 62):0≤(Qt l k n).1∧(Qt l k n).1 < n:=by
 unfold Qt;split
 ·exact apL h1 h2
 ·show (0:Int)≤0∧(0:Int) < n;omega
def wN:=qd Proofs.Tryz.f4 []
def aaS (Γ:Env) (f:Nat):Prop:=∀ (l:List Int),EvN Γ f [.sl 1 (l.map V.int)] (V.bool (decide ((l.length:Int)≤400)))
attribute [local go_sem] zb in
theorem akD {Γ:Env} {f:Nat} (h:Has Γ.P f 6 wN.1.1.ac wN.1.2) :aaS Γ f:=by
 intro l
 refine Qc h zsi zcl zcl fun C hC hm=>?_
 subst hC
 simp only [wN,qd,DC.ac]
 refine zgo ?_;repeat' first|exact zt|apply zan|intro hc
 refine Qg _ rfl ?_;simp only [go_sem]
def aaC:=qd Proofs.Tryz.f6 []
def abP (Γ:Env) (f:Nat):Prop:=∀ (l:List Int),EvR Γ f [.sl 1 (l.map V.int)] (Q1 l 0)
theorem amf {Γ:Env} {f:Nat} (h:Has Γ.P f 6 aaC.1.1.ac aaC.1.2) :abP Γ f:=by
 intro l
 refine ac5 h (by simp) (by simp only [Q1,V.closed,Qb,and_self]) fun C hC hm=>?_
 subst hC
 simp only [aaC,qd,DC.ac]
 refine zgo ?_;repeat' first|exact zt|apply zan|intro hc
 refine asu _ rfl rfl (by simp only [Q1,V.closed,Qb,and_self])
def VP:=qd Proofs.Tryz.f8 [zhn 14,zhn 10]
def JH (Γ:Env) (f:Nat):Prop:=∀ (l:List Int) (k:Nat) (n:Int) (hl:l.length≤400) (hk:k≤l.length),EvD Γ f [V.int n] (Q1 l k) (V.int (Qt l k n).1) (Q1 l (Qt l k n).2)
attribute [local go_sem] Q1 in
theorem ad0 {Γ:Env} {f:Nat} (h:Has Γ.P f 35 VP.1.1.ac VP.1.2) (z0:adk Γ 22):JH Γ f:=by
 intro l k n hl hk
 refine JL h zsi zcl zc3 zc3 fun C hC hm=>?_
 subst hC
 simp only [VP,qd,DC.ac]
 by_cases h1:k < l.length
 ·have e1:decide ((k:Int)≥(((l.map V.int).length:Nat):Int)) = false:=by simp;omega
  have hget:l[k]? = some (l.getD k 0):=by simp [zI,zd h1]
  have hw:=Qe (k:=k) (by omega)
  have hw2:IntKind.i64.wrap (((k + 1:Nat):Int) - 1) = (k:Int):=by rw [Jc (by omega) (by omega)];omega
  have hn:Qt l k n = (auQ (l.getD k 0) n,k + 1):=by rw [Qt,if_pos h1]
  rw [hn]
  (have zx:=za e1 (za hw (za hw2 hget)));refine zgo ?_;repeat' first|exact zt|apply zan|intro hc
  all_goals (refine J0 _ rfl rfl zcd ?_;simp only [go_sem])
 ·have e1:decide ((k:Int)≥(((l.map V.int).length:Nat):Int)) = true:=by simp;omega
  have hn:Qt l k n = (0,k):=by rw [Qt,if_neg h1]
  rw [hn]
  (have zx:=e1);refine zgo ?_;repeat' first|exact zt|apply zan|intro hc
  all_goals (refine J0 _ rfl rfl zcd ?_;simp only [go_sem])
def ofD (l:List Int) (k:Nat) (xs:List Int):Int×Nat:=(xs.getD (Qt l k xs.length).1.toNat 0,(Qt l k xs.length).2)
theorem xp {l:List Int} {k:Nat} {xs:List Int} (h:xs≠[]) (h2:xs.length < 2 ^ 62):(ofD l k xs).1∈xs:=by
 have h1:1≤xs.length:=by cases xs with|nil=>exact (h rfl).elim|cons _ _=>simp
 have:=Qz (l:=l) (k:=k) (n:=xs.length) (by omega) (by omega)
 have hk:(Qt l k xs.length).1.toNat < xs.length:=by omega
 unfold ofD
 simp only [zI,zd hk,Option.getD_some]
 exact zV hk
theorem aaV {l:List Int} {k:Nat} {xs:List Int} (hk:k≤l.length):(ofD l k xs).2≤l.length:=Q7 hk
def KM:=qd Proofs.Tryz.f24 []
def UX (Γ:Env) (f:Nat):Prop:=∀ (l:List Int) (k:Nat) (xs:List Int) (hl:l.length≤400) (hk:k≤l.length) (hx:1≤xs.length) (hx2:xs.length < 2 ^ 62),EvD Γ f [.sl 1 (xs.map V.int)] (Q1 l k) (V.int (ofD l k xs).1) (Q1 l (ofD l k xs).2)
attribute [local go_sem] zb Q1 in
theorem agG {Γ:Env} {f:Nat} (h:Has Γ.P f 12 KM.1.1.ac KM.1.2) (z0:JH Γ 8):UX Γ f:=by
 intro l k xs hl hk hx hx2
 refine JL h zsi zcl zc3 zc3 fun C hC hm=>?_
 subst hC
 simp only [KM,qd,DC.ac]
 have hr:=Qz (l:=l) (k:=k) (n:=xs.length) (by omega) (by omega)
 have hget:xs[(Qt l k xs.length).1.toNat]? = some (ofD l k xs).1:=by
  have hk:(Qt l k xs.length).1.toNat < xs.length:=by omega
  simp [ofD,zI,zd hk]
 have hn:=z0 l k xs.length hl hk
 have e2:Q1 l (ofD l k xs).2 = Q1 l (Qt l k xs.length).2:=rfl
 rw [e2]
 simp only [Q1] at hn
 (have zx:=hget);refine zgo ?_;repeat' first|exact zt|apply zan|intro hc
 refine J0 _ rfl rfl zcd ?_;simp only [go_sem]
def UH:=qd Proofs.Tryz.f23 []
def jA (Γ:Env) (f:Nat):Prop:=∀ (l:List Int) (k:Nat) (n:Int) (hl:l.length≤400) (hk:k≤l.length) (h1:1≤n) (h2:n < 2 ^ 62),EvD Γ f [V.int n] (Q1 l k) (V.bool ((Qt l k n).1 == n - 1)) (Q1 l (Qt l k n).2)
attribute [local go_sem] Q1 in
theorem afg {Γ:Env} {f:Nat} (h:Has Γ.P f 11 UH.1.1.ac UH.1.2) (z0:JH Γ 8):jA Γ f:=by
 intro l k n hl hk h1 h2
 refine JL h zsi zcl zc3 zc3 fun C hC hm=>?_
 subst hC
 simp only [UH,qd,DC.ac]
 have hn:=z0 l k n hl hk
 have hw:IntKind.i64.wrap (n - 1) = n - 1:=Jc (by omega) (by omega)
 simp only [Q1] at hn
 (have zx:=hw);refine zgo ?_;repeat' first|exact zt|apply zan|intro hc
 refine J0 _ rfl rfl zcd ?_;simp only [go_sem]
def aa4 (l:List Int) (k:Nat) (xs:List (List UInt8)):List UInt8×Nat:=(xs.getD (Qt l k xs.length).1.toNat [],(Qt l k xs.length).2)
theorem ahk {l:List Int} {k:Nat} {xs:List (List UInt8)} (h1:1≤xs.length) (h2:xs.length < 2 ^ 62):(aa4 l k xs).1∈xs:=by
 have:=Qz (l:=l) (k:=k) (n:=xs.length) (by omega) (by omega)
 have hk:(Qt l k xs.length).1.toNat < xs.length:=by omega
 unfold aa4
 simp only [zI,zd hk,Option.getD_some]
 exact zV hk
theorem adn {l:List Int} {k:Nat} {xs:List (List UInt8)} (hk:k≤l.length):(aa4 l k xs).2≤l.length:=Q7 hk
def VO:=qd Proofs.Tryz.f60 []
def qr (Γ:Env) (f:Nat):Prop:=∀ (l:List Int) (k:Nat) (xs:List (List UInt8)) (hl:l.length≤400) (hk:k≤l.length) (hx:1≤xs.length) (hx2:xs.length < 2 ^ 62),EvD Γ f [.sl 1 (xs.map V.str)] (Q1 l k) (V.str (aa4 l k xs).1) (Q1 l (aa4 l k xs).2)
attribute [local go_sem] zb Q1 in
theorem adZ {Γ:Env} {f:Nat} (h:Has Γ.P f 12 VO.1.1.ac VO.1.2) (z0:JH Γ 8):qr Γ f:=by
 intro l k xs hl hk hx hx2
 refine JL h zsi zcl zc3 zc3 fun C hC hm=>?_
 subst hC
 simp only [VO,qd,DC.ac]
 have hr:=Qz (l:=l) (k:=k) (n:=xs.length) (by omega) (by omega)
 have hget:xs[(Qt l k xs.length).1.toNat]? = some (aa4 l k xs).1:=by
  have hk:(Qt l k xs.length).1.toNat < xs.length:=by omega
  simp [aa4,zI,zd hk]
 have hn:=z0 l k xs.length hl hk
 have e2:Q1 l (aa4 l k xs).2 = Q1 l (Qt l k xs.length).2:=rfl
 rw [e2]
 simp only [Q1] at hn
 (have zx:=hget);refine zgo ?_;repeat' first|exact zt|apply zan|intro hc
 refine J0 _ rfl rfl zcd ?_;simp only [go_sem]
theorem avq (s:List UInt8):(ag9 s).2 = (QK 43 s).all aaW:=by
 unfold ag9;split
 ·rename_i h;rw [h]
 ·rename_i h;simpa using h
structure aj1 (s:List UInt8):Prop where
 colon:(58:UInt8) ∉ s
 known:(QK 43 s).all aaW = true
 head:∃ c r,s = c :: r∧c≠45∧c≠33∧c≠43∧c≠64
theorem aj1.sign {s:List UInt8} (h:aj1 s):Us s = (0,s):=by
 obtain ⟨c,r,rfl,h1,h2,h3,_⟩:=h.head
 rw [Us,if_neg (by simp [h1,h2,h3])]
theorem aj1.ne {s:List UInt8} (h:aj1 s):(s == auG) = false:=by
 obtain ⟨c,r,rfl,_,_,_,h4⟩:=h.head
 simp [auG,h4]
theorem aj1.okW {s:List UInt8} (h:aj1 s):wordOk s = true:=by rw [Av.wordOk,h.sign,avq,h.known,bo]
structure ape (s:List UInt8) (n:Nat):Prop where
 few:s≠[]→(QK 58 s).length≤n
 ok:s≠[]→∀ w∈QK 58 s,wordOk w = true
theorem ape.app {s t:List UInt8} {n m:Nat} (hs:ape s n) (ht:ape t m) (h1:s≠[]) (h2:t≠[]):ape (s++[58]++t) (n + m):=by
 refine ⟨fun _=>?_,fun _ x hx=>?_⟩
 ·have:=hs.few h1;have:=ht.few h2;rw [ajk];simp;omega
 ·rw [ajk] at hx
  rcases zP.1 hx with hx|hx
  ·exact hs.ok h1 x hx
  ·exact ht.ok h2 x hx
theorem aly {l:List Int} {j:Nat} {x:Int} (hn:l.Nodup) (hg:l[j]? = some x):x ∉ l.take j:=by
 intro h
 obtain ⟨hj,he⟩:=zl.1 hg
 have h2:l.take j++x :: l.drop (j + 1) = l:=by rw [← he,← zR hj,kh]
 rw [← h2] at hn
 exact (Zd.1 hn).2.2 x h x (by simp) rfl
end Av
end
