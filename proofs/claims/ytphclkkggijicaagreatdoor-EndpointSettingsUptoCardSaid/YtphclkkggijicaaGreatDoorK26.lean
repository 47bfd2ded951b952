/- K26 -/
import Derived.Test.YtphclkkggijicaaGreatDoorK25
import Derived.Test.YtphclkkggijicaaGreatDoorK12
set_option linter.unusedVariables false
set_option linter.unusedSimpArgs false
noncomputable section
set_option maxRecDepth 10000
set_option maxHeartbeats 4000000
namespace Av
open Go
attribute [local irreducible] AWp Vo Ky jA awS awC aad awQ aaN QL Vq vQ awR Vz awB okR js ris
def aeQ:List Int→Int→Option (List Int)
 | [],n=>some [n]
 | x :: r,n=>if x < n then (aeQ r n).map (x :: ·) else if x = n then none else some (n :: x :: r)
def amV (o:Option (List Int)):V:=match o with|some l=>.tup [.sl 1 (l.map V.int),V.bool true]|none=>.tup [.sl 1 [],V.bool false]
theorem ahW (o:Option (List Int)):(amV o).closed:=by cases o<;>simp only [amV,V.closed,Qa,and_self]
def amW:List Int→Int→Nat
 | [],_=>0
 | x :: r,n=>if x < n then amW r n + 1 else 0
theorem aiS:∀ (l:List Int) (n:Int),aeQ l n = if l[amW l n]? = some n then none else some (l.take (amW l n)++n :: l.drop (amW l n))
 | [],n=>by simp [aeQ,amW]
 | x :: r,n=>by
   rw [aeQ,amW]
   by_cases h:x < n
   ·rw [if_pos h,if_pos h,aiS r n,List.getElem?_cons_succ]
    split<;>simp
   ·rw [if_neg h,if_neg h,List.getElem?_cons_zero]
    by_cases h2:x = n
    ·rw [if_pos h2,if_pos (by rw [h2])]
    ·rw [if_neg h2,if_neg (by simpa using h2)];rfl
def jU:=qd Proofs.Tryz.f196 [zhn 14]
def qq (Γ:Env) (f:Nat):Prop:=∀ (l:List Int) (n:Int) (hl:l.length < 2 ^ 30),EvC Γ f [.sl 1 (l.map V.int),V.int n] (amV (aeQ l n))
theorem agT {Γ:Env} {f:Nat} (h:Has Γ.P f 45 jU.1.1.ac jU.1.2) :qq Γ f:=by
 intro l n hl
 refine Qn h zsi (ahW _) fun C hC hm=>?_
 subst hC
 simp only [jU,qd,DC.ac]
 have hal:(l.map V.int).length = l.length:=zh _
 rw [aiS]
 have hcI:∀ q:List Int,(∀ y∈q.map V.int,y.cells.length = 1) = True:=fun q=>eq_true fun y hy=>by obtain ⟨z,_,rfl⟩:=kC.1 hy;rfl
 (have zx:=hal);refine zgo ?_;repeat' first|exact zt|apply zan|intro hc
 refine Qp (ι:=Nat) (fun k=>k≤l.length∧k + amW (l.drop k) n = amW l n) (fun k=>[(6,V.int k)]) (fun k=>l.length - k) 0 (by omega) ⟨zu _,by simp⟩ zol zlt zet fun k hk K' hL=>?_
 obtain ⟨hk,hinv⟩:=hk
 simp only [ovT,Je,Nat.reduceEqDiff,reduceIte]
 have hA:List.take (k - 0) (l.map V.int) = (l.take k).map V.int:=by rw [Nat.sub_zero,List.map_take]
 have hB:List.take (l.length - k) (List.drop k (l.map V.int)) = (l.drop k).map V.int:=by rw [← List.map_drop,zb (by simp)]
 have hlA:((l.take k).map V.int).length = k:=by simp;omega
 have hlB:((l.drop k).map V.int).length = l.length - k:=by simp
 have hC:List.take k ((l.take k).map V.int) = (l.take k).map V.int:=zb (by rw [hlA];exact zi _)
 have hD:List.take (k + 1) ((l.take k).map V.int++[V.int n]) = (l.take k).map V.int++[V.int n]:=zb (by rw [zC,hlA];exact zi _)
 have hE:(l.take k).map V.int++[V.int n]++(l.drop k).map V.int = (l.take k++n :: l.drop k).map V.int:=by simp
 have hF:k + 1 + (l.length - k) = (l.take k++n :: l.drop k).length:=by simp;omega
 rcases hdr:l.drop k with _|⟨y,r⟩
 ·have hkl:=Qj hdr
  have e1:decide ((k:Int) < (l.length:Int)) = false:=by simp;omega
  rw [hdr,amW,Nat.add_zero] at hinv
  rw [← hinv,if_neg (by rw [kT hkl];simp),amV]
  have hkk:k = l.length:=by omega
  (have zx:=za e1 (za hal (za hA (za hB (za hlA (za hlB (za hcI (za hC (za hD (za hE hF))))))))));refine zgo ?_;repeat' first|exact zt|apply zan|intro hc
  all_goals first|exact zr|(refine Qd _ rfl ?_;exact ⟨aaL (n:=38000) rfl (by simp),rfl,trivial⟩)
 ·obtain ⟨hk',hget,hr⟩:=Qf hdr
  have hw:=Qc (k:=k) (by omega)
  have e1:decide ((k:Int) < (l.length:Int)) = true:=by simp;omega
  rw [hdr,amW] at hinv
  by_cases h1:y < n
  ·have e2:decide (y < n) = true:=zl h1
   rw [if_pos h1,← hr] at hinv
   (have zx:=za e1 (za e2 (za hal (za hw hget))));refine zgo ?_;repeat' first|exact zt|apply zan|intro hc
   all_goals exact hL _ (k + 1) zet ⟨by omega,by omega⟩ (by omega) zoe
  ·have e2:decide (y < n) = false:=zm h1
   rw [if_neg h1,Nat.add_zero] at hinv
   rw [← hinv,hget]
   by_cases h2:y = n
   ·have e3:(y == n) = true:=by simpa using h2
    rw [if_pos (by rw [h2]),amV]
    (have zx:=za e1 (za e2 (za e3 (za hal (za hw hget)))));exact zg
   ·have e3:(y == n) = false:=by simpa using h2
    rw [if_neg (by simpa using h2),amV]
    (have zx:=za e1 (za e2 (za e3 (za hal (za hw (za hget (za hA (za hB (za hlA (za hlB (za hcI (za hC (za hD (za hE hF))))))))))))));refine zgo ?_;repeat' first|exact zt|apply zan|intro hc
    all_goals first|exact zr|(refine Qd _ rfl ?_;exact ⟨aaL (n:=38000) rfl (by simp),rfl,trivial⟩)
def enV (e:QI) (i a h:V):List V:=[V.str e.name,V.int e.least,V.int e.most,.sl 1 (e.suites.map V.int),V.bool e.own,i,a,h,V.bool e.fall]
theorem abJ {o:Nat→Option Ob} {br:List Nat} {B:Option (List Nat)} {e:QI} {i a h i' a' h':V} (hi:conv o br B i i') (ha:conv o br B a a') (hh:conv o br B h h'):Qz o br B (enV e i a h) (enV e i' a' h'):=by
 simp only [enV,Qz];simp [conv,hi,ha,hh,V.int,V.str,V.bool]
@[simp] theorem XA (e:QI):Qa e.cells:=by simp [QI.cells,V.closed,Qa]
theorem PDraft.cells_closed (e:QI):Qa e.cells:=XA e
theorem X0 {o:Nat→Option Ob} {br:List Nat} {B:Option (List Nat)} (s:Nat) (l:List V):conv o br B (.sl s l) (.sl s l):=by simp [conv]
theorem adH {o:Nat→Option Ob} {br:List Nat} {B:Option (List Nat)} (s:Nat):conv o br B (.sc (.slice none 0 0)) (.sl s []):=by simp [conv]
def aoh:List (List UInt8)→List Int→Bool×List Int
 | [],acc=>(true,acc)
 | s :: r,acc=>if (jF s).2 = true∧(jF s).1≤2147483648 then (match aeQ acc (jF s).1 with|some a=>aoh r a|none=>(false,[])) else (false,acc)
def ap4 (l:List (List UInt8)) (a:List Int):Bool×List Int:=if l.length > 16 then (false,a) else aoh l []
def akP:List (List UInt8)→List Int→Bool×List Int
 | [],acc=>(true,acc)
 | s :: r,acc=>if Un (JR s 0 QR) = true then (match aeQ acc (JR s 0 QR) with|some a=>akP r a|none=>(false,acc)) else (false,acc)
theorem aeP:∀ {l:List Int} {n:Int} {a:List Int},aeQ l n = some a→a.length = l.length + 1
 | [],n,a,h=>by simp [aeQ] at h;subst h;rfl
 | x :: r,n,a,h=>by
   rw [aeQ] at h
   split at h
   ·obtain ⟨b,hb,rfl⟩:=zf.1 h
    simp [aeP hb]
   ·split at h
    ·cases h
    ·cases h;simp
def WO:=qd Proofs.Tryz.f158 []
def Us (Γ:Env) (f:Nat):Prop:=∀ (l:List (List UInt8)) (e:QI) (hl:l.length < 2 ^ 29),EvD Γ f [.sl 1 (l.map V.str)] e.cells (V.bool (ap4 l e.anchors).1) ({ e with anchors:=(ap4 l e.anchors).2 }:QI).cells
theorem abz {Γ:Env} {f:Nat} (h:Has Γ.P f 48 WO.1.1.ac WO.1.2) (z0:Ve Γ 160) (z1:qq Γ 196):Us Γ f:=by
 intro l e hl
 refine QT h zsi (by first|exact XA _|simp only [V.closed,Qa,and_self]) zc3 zc3 fun C hC hm=>?_
 subst hC
 simp only [WO,qd,DC.ac]
 have hlm:(l.map V.str).length = l.length:=zh _
 have hm:C.m = 1:=by simpa using hm
 simp only [QI.cells]
 by_cases h16:l.length > 16
 ·have e1:decide ((l.length:Int) > 16) = true:=by simp;omega
  rw [ap4,if_pos h16]
  (have zx:=za hlm e1);refine zgo ?_;repeat' first|exact zt|apply zan|intro hc
  all_goals (refine QB _ rfl rfl zcd ?_;simp only [go_sem];done)
 have e0:decide ((l.length:Int) > 16) = false:=by simp;omega
 rw [ap4,if_neg h16]
 generalize hG:aoh l [] = g
 (have zx:=za hlm e0);refine zgo ?_;repeat' first|exact zt|apply zan|intro hc
 refine JO (ι:=Nat×List Int) (fun q=>q.1≤l.length∧aoh (l.drop q.1) q.2 = g∧q.2.length = q.1) (fun q=>stL [(0,.ptr 0 0),(1,.sl 1 (l.map V.str)),(5,V.int q.1)] [.box true (enV e (.sl 4 (e.idents.map Qy.v)) (.sl 1 (q.2.map V.int)) (.sl 1 (e.hashes.map V.int)))]) (fun q=>l.length - q.1) (0,[]) ⟨zu _,hG,rfl⟩ (wK [0] (by rw [hm];rfl) ⟨⟨_,rfl,fun h=>h,abJ (X0 _ _) (adH _) (X0 _ _)⟩,trivial⟩) fun q hq K' hL=>?_
 obtain ⟨k,acc⟩:=q
 obtain ⟨hk,hinv,hal⟩:=hq
 simp only at hk hinv hal hL ⊢
 rcases hd:l.drop k with _|⟨s,r⟩
 ·have hkl:=Qj hd
  have e1:decide ((k:Int) < ((l.length:Nat):Int)) = false:=by simp;omega
  rw [hd,aoh] at hinv
  subst hinv
  simp only [stL,enV]
  (have zx:=za e1 hlm);refine zgo ?_;repeat' first|exact zt|apply zan|intro hc
  all_goals (refine Yf _ rfl rfl (abJ (X0 _ _) (X0 _ _) (X0 _ _)) rfl;done)
 ·obtain ⟨hk',hget,hr⟩:=Qf hd
  have hw:=Qc (k:=k) (by omega)
  have e1:decide ((k:Int) < ((l.length:Nat):Int)) = true:=by simp;omega
  rw [hd,aoh] at hinv
  have hn:=(z0 s).b
  simp only [alF] at hn
  generalize jF s = nu at *
  obtain ⟨n,b⟩:=nu
  simp only at hn hinv
  rcases b with _|_
  ·rw [if_neg (fun h=>by simp at h)] at hinv
   subst hinv
   simp only [stL,enV]
   (have zx:=za e1 (za hw (za hlm hget)));refine zgo ?_;repeat' first|exact zt|apply zan|intro hc
   all_goals (refine Yf _ rfl rfl (abJ (X0 _ _) (X0 _ _) (X0 _ _)) rfl;done)
  by_cases hmx:n≤2147483648
  ·have e2:decide (n > 2147483648) = false:=by simp;omega
   have hp:=(z1 acc n (by omega)).b
   rw [if_pos ⟨rfl,hmx⟩] at hinv
   rcases hpu:aeQ acc n with _|a
   ·rw [hpu] at hinv hp
    subst hinv
    simp only [amV] at hp
    simp only [stL,enV]
    (have zx:=za e1 (za e2 (za hw (za hlm hget))));refine zgo ?_;repeat' first|exact zt|apply zan|intro hc
    all_goals (refine Yf _ rfl rfl (abJ (X0 _ _) (X0 _ _) (X0 _ _)) rfl;done)
   ·rw [hpu] at hinv hp
    have hpl:=aeP hpu
    simp only [amV] at hp
    simp only [stL,enV]
    (have zx:=za e1 (za e2 (za hw (za hlm hget))));refine zgo ?_;repeat' first|exact zt|apply zan|intro hc
    all_goals exact hL _ (k + 1,a) ⟨by simp only;omega,by rw [hr];exact hinv,by simp only;omega⟩ (by simp only;omega) (wK [0] (by rw [hm];rfl) ⟨⟨_,rfl,fun h=>h,abJ (X0 _ _) (X0 _ _) (X0 _ _)⟩,trivial⟩)
  ·have e2:decide (n > 2147483648) = true:=by simp;omega
   rw [if_neg (fun h=>hmx h.2)] at hinv
   subst hinv
   simp only [stL,enV]
   (have zx:=za e1 (za e2 (za hw (za hlm hget))));refine zgo ?_;repeat' first|exact zt|apply zan|intro hc
   all_goals (refine Yf _ rfl rfl (abJ (X0 _ _) (X0 _ _) (X0 _ _)) rfl;done)
def VP:=qd Proofs.Tryz.f159 []
def Kl (Γ:Env) (f:Nat):Prop:=∀ (l:List (List UInt8)) (e:QI) (hl:l.length < 2 ^ 29),EvD Γ f [.sl 1 (l.map V.str)] e.cells (V.bool (akP l []).1) ({ e with hashes:=(akP l []).2 }:QI).cells
theorem acv {Γ:Env} {f:Nat} (h:Has Γ.P f 41 VP.1.1.ac VP.1.2) (z0:Vf Γ 197) (z1:XW Γ 61) (z2:qq Γ 196):Kl Γ f:=by
 intro l e hl
 refine QT h zsi (by first|exact XA _|simp only [V.closed,Qa,and_self]) zc3 zc3 fun C hC hm=>?_
 subst hC
 simp only [VP,qd,DC.ac]
 have hlm:(l.map V.str).length = l.length:=zh _
 have hm:C.m = 1:=by simpa using hm
 simp only [QI.cells]
 generalize hG:akP l [] = g
 (have zx:=hlm);refine zgo ?_;repeat' first|exact zt|apply zan|intro hc
 refine JO (ι:=Nat×List Int) (fun q=>q.1≤l.length∧akP (l.drop q.1) q.2 = g∧q.2.length = q.1) (fun q=>stL [(0,.ptr 0 0),(1,.sl 1 (l.map V.str)),(5,V.int q.1)] [.box true (enV e (.sl 4 (e.idents.map Qy.v)) (.sl 1 (e.anchors.map V.int)) (.sl 1 (q.2.map V.int)))]) (fun q=>l.length - q.1) (0,[]) ⟨zu _,hG,rfl⟩ (wK [0] (by rw [hm];rfl) ⟨⟨_,rfl,fun h=>h,abJ (X0 _ _) (X0 _ _) (adH _)⟩,trivial⟩) fun q hq K' hL=>?_
 obtain ⟨k,acc⟩:=q
 obtain ⟨hk,hinv,hal⟩:=hq
 simp only at hk hinv hal hL ⊢
 rcases hd:l.drop k with _|⟨s,r⟩
 ·have hkl:=Qj hd
  have e1:decide ((k:Int) < ((l.length:Nat):Int)) = false:=by simp;omega
  rw [hd,akP] at hinv
  subst hinv
  simp only [stL,enV]
  (have zx:=za e1 hlm);refine zgo ?_;repeat' first|exact zt|apply zan|intro hc
  all_goals (refine Yf _ rfl rfl (abJ (X0 _ _) (X0 _ _) (X0 _ _)) rfl;done)
 ·obtain ⟨hk',hget,hr⟩:=Qf hd
  have hw:=Qc (k:=k) (by omega)
  have e1:decide ((k:Int) < ((l.length:Nat):Int)) = true:=by simp;omega
  rw [hd,akP] at hinv
  have hf:=(z0 s).b
  generalize JR s 0 QR = n at *
  have hkd:=(z1 n).b
  by_cases hh:Un n = true
  ·have e2:((J5 n).kind != 1) = false:=by simpa [Un] using hh
   have hp:=(z2 acc n (by omega)).b
   rw [if_pos hh] at hinv
   rcases hpu:aeQ acc n with _|a
   ·rw [hpu] at hinv hp
    subst hinv
    simp only [amV] at hp
    simp only [stL,enV]
    (have zx:=za e1 (za e2 (za hw (za hlm hget))));refine zgo ?_;repeat' first|exact zt|apply zan|intro hc
    all_goals (refine Yf _ rfl rfl (abJ (X0 _ _) (X0 _ _) (X0 _ _)) rfl;done)
   ·rw [hpu] at hinv hp
    have hpl:=aeP hpu
    simp only [amV] at hp
    simp only [stL,enV]
    (have zx:=za e1 (za e2 (za hw (za hlm hget))));refine zgo ?_;repeat' first|exact zt|apply zan|intro hc
    all_goals exact hL _ (k + 1,a) ⟨by simp only;omega,by rw [hr];exact hinv,by simp only;omega⟩ (by simp only;omega) (wK [0] (by rw [hm];rfl) ⟨⟨_,rfl,fun h=>h,abJ (X0 _ _) (X0 _ _) (X0 _ _)⟩,trivial⟩)
  ·have e2:((J5 n).kind != 1) = true:=by simpa [Un] using hh
   rw [if_neg hh] at hinv
   subst hinv
   simp only [stL,enV]
   (have zx:=za e1 (za e2 (za hw (za hlm hget))));refine zgo ?_;repeat' first|exact zt|apply zan|intro hc
   all_goals (refine Yf _ rfl rfl (abJ (X0 _ _) (X0 _ _) (X0 _ _)) rfl;done)
def aia (st:List Qs) (l:List (List UInt8)) (i:List Qy):Bool×List Qy:=if l.length > 4 then (false,i) else xQ st l []
def KS:=qd Proofs.Tryz.f157 [⟨fun _=>false,[4,6,8,10],.one 0 (.one 1 (.one 2 (.one 3 (.one 5 (.one 7 (.one 9 (.or 4 (.or 6 (.or 8 (.one 10 (.one 11 (.one 12 (.one 13 (.one 14 (.one 15 (.one 16 (.done)))))))) (.or 10 (.one 8 (.one 11 (.one 12 (.one 13 (.one 14 (.one 15 (.one 16 (.done)))))))) (.done))) (.or 8 (.or 6 (.one 10 (.one 11 (.one 12 (.one 13 (.one 14 (.one 15 (.one 16 (.done)))))))) (.or 10 (.one 6 (.one 11 (.one 12 (.one 13 (.one 14 (.one 15 (.one 16 (.done)))))))) (.done))) (.or 10 (.or 6 (.one 8 (.one 11 (.one 12 (.one 13 (.one 14 (.one 15 (.one 16 (.done)))))))) (.or 8 (.one 6 (.one 11 (.one 12 (.one 13 (.one 14 (.one 15 (.one 16 (.done)))))))) (.done))) (.done)))) (.or 6 (.or 4 (.or 8 (.one 10 (.one 11 (.one 12 (.one 13 (.one 14 (.one 15 (.one 16 (.done)))))))) (.or 10 (.one 8 (.one 11 (.one 12 (.one 13 (.one 14 (.one 15 (.one 16 (.done)))))))) (.done))) (.or 8 (.or 4 (.one 10 (.one 11 (.one 12 (.one 13 (.one 14 (.one 15 (.one 16 (.done)))))))) (.or 10 (.one 4 (.one 11 (.one 12 (.one 13 (.one 14 (.one 15 (.one 16 (.done)))))))) (.done))) (.or 10 (.or 4 (.one 8 (.one 11 (.one 12 (.one 13 (.one 14 (.one 15 (.one 16 (.done)))))))) (.or 8 (.one 4 (.one 11 (.one 12 (.one 13 (.one 14 (.one 15 (.one 16 (.done)))))))) (.done))) (.done)))) (.or 8 (.or 4 (.or 6 (.one 10 (.one 11 (.one 12 (.one 13 (.one 14 (.one 15 (.one 16 (.done)))))))) (.or 10 (.one 6 (.one 11 (.one 12 (.one 13 (.one 14 (.one 15 (.one 16 (.done)))))))) (.done))) (.or 6 (.or 4 (.one 10 (.one 11 (.one 12 (.one 13 (.one 14 (.one 15 (.one 16 (.done)))))))) (.or 10 (.one 4 (.one 11 (.one 12 (.one 13 (.one 14 (.one 15 (.one 16 (.done)))))))) (.done))) (.or 10 (.or 4 (.one 6 (.one 11 (.one 12 (.one 13 (.one 14 (.one 15 (.one 16 (.done)))))))) (.or 6 (.one 4 (.one 11 (.one 12 (.one 13 (.one 14 (.one 15 (.one 16 (.done)))))))) (.done))) (.done)))) (.or 10 (.or 4 (.or 6 (.one 8 (.one 11 (.one 12 (.one 13 (.one 14 (.one 15 (.one 16 (.done)))))))) (.or 8 (.one 6 (.one 11 (.one 12 (.one 13 (.one 14 (.one 15 (.one 16 (.done)))))))) (.done))) (.or 6 (.or 4 (.one 8 (.one 11 (.one 12 (.one 13 (.one 14 (.one 15 (.one 16 (.done)))))))) (.or 8 (.one 4 (.one 11 (.one 12 (.one 13 (.one 14 (.one 15 (.one 16 (.done)))))))) (.done))) (.or 8 (.or 4 (.one 6 (.one 11 (.one 12 (.one 13 (.one 14 (.one 15 (.one 16 (.done)))))))) (.or 6 (.one 4 (.one 11 (.one 12 (.one 13 (.one 14 (.one 15 (.one 16 (.done)))))))) (.done))) (.done)))) (.done)))))))))))⟩]
def yh (Γ:Env) (f:Nat):Prop:=∀ (l:List (List UInt8)) (e:QI) (st:List Qs) (hl:l.length < 2 ^ 28) (hk:st.length < 2 ^ 60) (hs:∀ x∈st,x.Sm),EvD Γ f [.sl 1 (l.map V.str),.sl 6 (st.map Qs.v)] e.cells (V.bool (aia st l e.idents).1) ({ e with idents:=(aia st l e.idents).2 }:QI).cells
attribute [local go_sem] enV Yd in
theorem ae6 {Γ:Env} {f:Nat} (h:Has Γ.P f 49 KS.1.1.ac KS.1.2) (z0:yk Γ 195):yh Γ f:=by
 intro l e st hl hk hs
 refine QT h zsi (by first|exact XA _|simp only [V.closed,Qa,and_self]) zc3 zc3 fun C hC hm=>?_
 subst hC
 simp only [KS,qd,DC.ac]
 have hlm:(l.map V.str).length = l.length:=zh _
 simp only [QI.cells]
 by_cases h4:l.length > 4
 ·have e1:decide ((l.length:Int) > 4) = true:=by simp;omega
  rw [aia,if_pos h4]
  (have zx:=za hlm e1);refine zgo ?_;repeat' first|exact zt|apply zan|intro hc
  all_goals (refine QB _ rfl rfl zcd ?_;simp only [go_sem];done)
 have e0:decide ((l.length:Int) > 4) = false:=by simp;omega
 rw [aia,if_neg h4]
 generalize hG:xQ st l [] = G
 have hcv:∀ (o:Nat→Option Ob) (n m:Nat) (acc:List Qy),m = acc.length→o n = some (.buf true 4 (acc.map Qy.v))→n ∉ [0]→Qz o [0] none (enV e (.hd n 0 m) (.sl 1 (e.anchors.map V.int)) (.sl 1 (e.hashes.map V.int))) (enV e (.sl 4 (acc.map Qy.v)) (.sl 1 (e.anchors.map V.int)) (.sl 1 (e.hashes.map V.int))):=fun o n m acc hm h hn=>abJ (by subst hm;exact aaL h hn) (X0 _ _) (X0 _ _)
 simp only [enV] at hcv
 (have zx:=za hlm e0);refine zgo ?_;repeat' first|exact zt|apply zan|intro hc
 refine Ug 0 5 4 rfl rfl ?_
 refine QA (ι:=Nat×List Qy) (fun q=>q.1≤l.length∧xQ st (l.drop q.1) q.2 = G∧q.2.length = q.1) (fun q=>Yd [(0,.ptr 0 0),(1,.sl 1 (l.map V.str)),(2,.sl 6 (st.map Qs.v)),(7,V.int q.1)] [(0,.box true (enV e (.hd 1 0 q.2.length) (.sl 1 (e.anchors.map V.int)) (.sl 1 (e.hashes.map V.int)))),(1,.buf true 4 (q.2.map Qy.v))] 2) (fun q=>l.length - q.1) (0,[]) ⟨zu _,hG,rfl⟩ (Qo [(1,9001)]) (JZ [(1,9001)] (by simp only [go_sem,zwl,enV]<;>exact zcc) (by simp only [go_sem,zwl,enV]<;>exact zcc) (by simp [Qo]) (by simp;omega) (by omega)) fun q hq K' hL=>?_
 obtain ⟨k,acc⟩:=q
 obtain ⟨hk,hinv,hal⟩:=hq
 simp only at hk hinv hal
 rcases hd:l.drop k with _|⟨s,r⟩
 ·have hkl:=Qj hd
  have e1:decide ((k:Int) < ((l.length:Nat):Int)) = false:=by simp;omega
  rw [hd,xQ] at hinv
  subst hinv
  (have zx:=za e1 hlm);refine zgo ?_;repeat' first|exact zt|apply zan|intro hc
  all_goals exact Yf _ rfl rfl (hcv _ 1 _ _ rfl rfl (by decide)) rfl
 ·obtain ⟨hk',hget,hr⟩:=Qf hd
  have hw:=Qc (k:=k) (by omega)
  have e1:decide ((k:Int) < ((l.length:Nat):Int)) = true:=by simp;omega
  rw [hd,xQ] at hinv
  have hf:=(z0 st s (by omega) hs).b
  rcases hq:y5 st s with _|x
  ·rw [hq] at hf hinv
   subst hinv
   simp only [abv,Qs.v,Qs.cells] at hf
   (have zx:=za e1 (za hw (za hlm hget)));refine zgo ?_;repeat' first|exact zt|apply zan|intro hc
   all_goals exact Yf _ rfl rfl (hcv _ 1 _ _ rfl rfl (by decide)) rfl
  ·rw [hq] at hf hinv
   simp only [abv,Qs.v,Qs.cells] at hf
   have hap:acc.map Qy.v++[V.agg [V.int x.kalg,V.int x.kbits,V.int x.kid,.sl 15 (x.chain.map Qi.v)]] = (acc++[aa5 x]).map Qy.v:=by rw [zD];rfl
   have hta:List.take acc.length (acc.map Qy.v) = acc.map Qy.v:=zb (by simp)
   have hla:acc.length + 1 = (acc++[aa5 x]).length:=by simp
   (have zx:=za e1 (za hw (za hlm (za hget (za hta (za hap hla))))));refine zgo ?_;repeat' first|exact zt|apply zan|intro hc
   all_goals first|exact hL _ (k + 1,acc++[aa5 x]) (Qo [(1,31002)]) ⟨by simp only;omega,by rw [hr];exact hinv,by simp;omega⟩ (by simp only;omega) (JZ [(1,31002)] (by simp only [go_sem,zwl,enV]<;>exact zcc) (by simp only [go_sem,zwl,enV];first|exact Ud _|exact ⟨trivial,Ud _⟩|(repeat' (first|rfl|apply za|omega|exact fun h=>h|exact Exists.intro _ rfl))) (by simp [Qo]) (by simp;omega) (by omega))
structure PIt where
 word:List UInt8
 vals:List (List UInt8)
 line:Int
def PIt.v (x:PIt):V:=.agg [V.str x.word,.sl 1 (x.vals.map V.str),V.int x.line]
structure PIt.Sm (x:PIt):Prop where
 hl:x.vals.length < 2 ^ 28
 hs:∀ s∈x.vals,s.length < 2 ^ 30
def arb (w v:List UInt8) (e:QI):Bool×QI :=
 if w = [108,101,97,115,116]∨w = [109,111,115,116] then (if (jF v).2 = true∧1≤(jF v).1∧(jF v).1≤4 then (true,if w = [108,101,97,115,116] then { e with least:=(jF v).1 } else { e with most:=(jF v).1 }) else (false,e))
 else if w = [115,117,105,116,101,115] then ((Xm v).2.2 == 0,{ e with suites:=(Xm v).1 })
 else if w = [111,114,100,101,114] then (v == [111,119,110] || v == [99,108,105,101,110,116],{ e with own:=v == [111,119,110] })
 else (v == [121,101,115] || v == [110,111],{ e with fall:=v == [121,101,115] })
def WD (st:List Qs) (w:List UInt8) (l:List (List UInt8)) (e:QI):Bool×QI :=
 if w = [107,101,121,115] then ((aia st l e.idents).1,{ e with idents:=(aia st l e.idents).2 })
 else if w = [97,110,99,104,111,114,115] then ((ap4 l e.anchors).1,{ e with anchors:=(ap4 l e.anchors).2 })
 else if w = [104,97,115,104,101,115] then ((akP l []).1,{ e with hashes:=(akP l []).2 })
 else match l with
  | [v]=>arb w v e
  | _=>(false,e)
def UJ:=qd Proofs.Tryz.f113 []
def qS (Γ:Env) (f:Nat):Prop:=∀ (x:PIt) (e:QI) (st:List Qs) (sm:x.Sm) (hk:st.length < 2 ^ 60) (hs:∀ x∈st,x.Sm),EvD Γ f [x.v,.sl 6 (st.map Qs.v)] e.cells (V.bool (WD st x.word x.vals e).1) (WD st x.word x.vals e).2.cells
attribute [local go_sem] List.length_nil in
theorem ado {Γ:Env} {f:Nat} (h:Has Γ.P f 111 UJ.1.1.ac UJ.1.2) (z0:yh Γ 157) (z1:Us Γ 158) (z2:Kl Γ 159) (z3:Ve Γ 160) (z4:V4 Γ 112):qS Γ f:=by
 intro x e st sm hk hs
 refine QT h zsi (by first|exact XA _|simp only [V.closed,Qa,and_self]) zc3 zc3 fun C hC hm=>?_
 subst hC
 simp only [UJ,qd,DC.ac]
 obtain ⟨w,l,n⟩:=x
 obtain ⟨hl,hls⟩:=sm
 simp only at hl hls ⊢
 have bq:∀ t:List UInt8,w≠t→(w == t) = false:=fun t h=>by simpa using h
 by_cases w1:w = [107,101,121,115]
 ·have h1:=z0 l e st hl hk hs
  unfold WD
  rw [if_pos w1]
  subst w1
  simp only [QI.cells,PIt.v] at h1 ⊢
  refine zgo ?_;repeat' first|exact zt|apply zan|intro hc
  all_goals (refine QB _ rfl rfl zcd ?_;simp only [go_sem];done)
 have b1:=bq _ w1
 by_cases w2:w = [97,110,99,104,111,114,115]
 ·have h1:=z1 l e (by omega)
  unfold WD
  rw [if_neg w1,if_pos w2]
  subst w2
  simp only [QI.cells,PIt.v] at h1 ⊢
  refine zgo ?_;repeat' first|exact zt|apply zan|intro hc
  all_goals (refine QB _ rfl rfl zcd ?_;simp only [go_sem];done)
 have b2:=bq _ w2
 by_cases w3:w = [104,97,115,104,101,115]
 ·have h1:=z2 l e (by omega)
  unfold WD
  rw [if_neg w1,if_neg w2,if_pos w3]
  subst w3
  simp only [QI.cells,PIt.v] at h1 ⊢
  refine zgo ?_;repeat' first|exact zt|apply zan|intro hc
  all_goals (refine QB _ rfl rfl zcd ?_;simp only [go_sem];done)
 have b3:=bq _ w3
 unfold WD
 rw [if_neg w1,if_neg w2,if_neg w3]
 rcases l with _|⟨v,_|⟨t,r⟩⟩
 ·have e1:((0:Int) != 1) = true:=by decide
  simp only [QI.cells,PIt.v,zo]
  (have zx:=za b1 (za b2 (za b3 e1)));refine zgo ?_;repeat' first|exact zt|apply zan|intro hc
  all_goals (refine QB _ rfl rfl zcd ?_;simp only [go_sem];done)
 rotate_left
 ·have e1:((((v :: t :: r).map V.str).length:Int) != 1) = true:=by simp;omega
  simp only [QI.cells,PIt.v]
  (have zx:=za b1 (za b2 (za b3 e1)));refine zgo ?_;repeat' first|exact zt|apply zan|intro hc
  all_goals (refine QB _ rfl rfl zcd ?_;simp only [go_sem];done)
 simp only [zp,zo]
 have hv:=hls v (by simp)
 rw [arb]
 by_cases w4:w = [108,101,97,115,116]∨w = [109,111,115,116]
 ·have hn:=(z3 v).b
  simp only [alF] at hn
  rw [if_pos w4]
  generalize jF v = nu at *
  obtain ⟨m,ok⟩:=nu
  simp only at hn ⊢
  by_cases hok:ok = true∧1≤m∧m≤4
  ·obtain ⟨rfl,m1,m2⟩:=hok
   have e2:decide (m < 1) = false:=by simp;omega
   have e3:decide (m > 4) = false:=by simp;omega
   rw [if_pos ⟨rfl,m1,m2⟩]
   rcases w4 with rfl|rfl
   ·simp only [QI.cells,PIt.v,if_pos,zp,zo]
    (have zx:=za e2 e3);refine zgo ?_;repeat' first|exact zt|apply zan|intro hc
    all_goals (refine QB _ rfl rfl zcd ?_;simp only [go_sem];done)
   ·have hne:¬ ([109,111,115,116]:List UInt8) = [108,101,97,115,116]:=by decide
    simp only [QI.cells,PIt.v,if_neg hne,zp,zo]
    (have zx:=za e2 e3);refine zgo ?_;repeat' first|exact zt|apply zan|intro hc
    all_goals (refine QB _ rfl rfl zcd ?_;simp only [go_sem];done)
  ·rw [if_neg hok]
   rcases ok with _|_
   ·rcases w4 with rfl|rfl
    all_goals
     simp only [QI.cells,PIt.v,zp,zo]
     refine zgo ?_;repeat' first|exact zt|apply zan|intro hc
     all_goals (refine QB _ rfl rfl zcd ?_;simp only [go_sem];done)
   ·by_cases m1:m < 1
    ·have e2:decide (m < 1) = true:=zl m1
     rcases w4 with rfl|rfl
     all_goals
      simp only [QI.cells,PIt.v,zp,zo]
      (have zx:=e2);refine zgo ?_;repeat' first|exact zt|apply zan|intro hc
      all_goals (refine QB _ rfl rfl zcd ?_;simp only [go_sem];done)
    ·have e2:decide (m < 1) = false:=zm m1
     have e3:decide (m > 4) = true:=zl (by have:¬ (1≤m∧m≤4):=fun h=>hok ⟨rfl,h⟩;omega)
     rcases w4 with rfl|rfl
     all_goals
      simp only [QI.cells,PIt.v,zp,zo]
      (have zx:=za e2 e3);refine zgo ?_;repeat' first|exact zt|apply zan|intro hc
      all_goals (refine QB _ rfl rfl zcd ?_;simp only [go_sem];done)
 rw [if_neg w4]
 have b4:=bq [108,101,97,115,116] fun h=>w4 (.inl h)
 have b5:=bq [109,111,115,116] fun h=>w4 (.inr h)
 by_cases w5:w = [115,117,105,116,101,115]
 ·have hp:=(z4 v hv).b
  rw [Vr] at hp
  rw [if_pos w5]
  subst w5
  simp only [QI.cells,PIt.v,zp,zo]
  refine zgo ?_;repeat' first|exact zt|apply zan|intro hc
  all_goals (refine QB _ rfl rfl zcd ?_;simp only [go_sem];done)
 have b6:=bq _ w5
 rw [if_neg w5]
 by_cases w6:w = [111,114,100,101,114]
 ·rw [if_pos w6]
  subst w6
  simp only [QI.cells,PIt.v,zp,zo]
  rcases hq:v == [111,119,110] with _|_
  ·(have zx:=hq);refine zgo ?_;repeat' first|exact zt|apply zan|intro hc
   all_goals first|(refine QB _ rfl rfl zcd ?_;simp only [go_sem];done)|(refine QB _ rfl rfl zcd ?_;simp only [go_sem];simp [*];done)
  ·(have zx:=hq);refine zgo ?_;repeat' first|exact zt|apply zan|intro hc
   all_goals first|(refine QB _ rfl rfl zcd ?_;simp only [go_sem];done)|(refine QB _ rfl rfl zcd ?_;simp only [go_sem];simp [*];done)
 have b7:=bq _ w6
 rw [if_neg w6]
 simp only [QI.cells,PIt.v,zp,zo]
 rcases hq:v == [121,101,115] with _|_
 ·(have zx:=za b1 (za b2 (za b3 (za b4 (za b5 (za b6 (za b7 hq)))))));refine zgo ?_;repeat' first|exact zt|apply zan|intro hc
  all_goals first|(refine QB _ rfl rfl zcd ?_;simp only [go_sem];done)|(refine QB _ rfl rfl zcd ?_;simp only [go_sem];simp [*];done)
 ·(have zx:=za b1 (za b2 (za b3 (za b4 (za b5 (za b6 (za b7 hq)))))));refine zgo ?_;repeat' first|exact zt|apply zan|intro hc
  all_goals first|(refine QB _ rfl rfl zcd ?_;simp only [go_sem];done)|(refine QB _ rfl rfl zcd ?_;simp only [go_sem];simp [*];done)
theorem aj6 {n:Int} (h0:0≤n) (h1:n < 1000000000000000):jF (Lib.itoa n) = (n,true):=by
 have e:Lib.itoa n = Lib.decDigits n.toNat:=by rw [Lib.itoa,if_neg (by omega)]
 obtain ⟨c,r,hc,h2,h3,h4⟩:=afw (n.toNat + 1) n.toNat (by omega)
 have hn:=aiY (n.toNat + 1) n.toNat (by omega)
 have hl:(Lib.decDigits n.toNat).length≤15:=by
  have:∀ (k u:Nat),u < 10 ^ (k + 1)→(Lib.decDigits u).length≤k + 1:=by
   intro k
   induction k with
   | zero=>intro u hu;rw [Lib.decDigits,dif_pos (by omega)];simp
   | succ k ih =>
     intro u hu
     rw [Lib.decDigits]
     split
     ·simp
     ·have:=ih (u / 10) (by rw [Nat.pow_succ] at hu;omega)
      simp;omega
  have:=this 14 n.toNat (by omega)
  omega
 rw [e,jF,if_neg,hn]
 ·simp;omega
 ·rw [hc] at hl ⊢
  rintro (h|h|⟨h,h'⟩)
  ·simp at h
  ·omega
  ·simp only [List.getElem?_cons_zero,zd] at h'
   subst h'
   by_cases h0':n = 0
   ·subst h0'
    rw [Lib.decDigits,dif_pos (by omega)] at hc
    simp only [ke] at hc
    rw [← hc.2] at h;simp at h
   ·exact h4 (by omega) rfl
theorem ajk {s:List UInt8} {m:Int} (hm:m < 1000000000000000):((jF s).2 = true∧(jF s).1≤m↔aaK s = true∧Xo s≤m∧0≤Xo s)∧((jF s).2 = true→(jF s).1 = Xo s∧0≤Xo s):=by
 have h2:(jF s).2 = true→(jF s).1 = Xo s∧0≤Xo s∧aaK s = true:=fun h=>by
  obtain ⟨h1,h0,hx⟩:=alU (r:=s) (n:=(jF s).1) (by rw [← h])
  have e1:=abf h0 (by omega:(jF s).1 < 1000000000000000000)
  have e2:=akG h0 (by omega:(jF s).1 < 1000000000000000000)
  rw [h1] at e1 e2
  refine ⟨e2.symm,by omega,?_⟩
  rw [aaK,e1]
  simp only [e2,h1,beq_self_eq_true,zS]
  exact zl h0
 refine ⟨⟨fun ⟨h,hl⟩=>by obtain ⟨a,b,c⟩:=h2 h;exact ⟨c,by omega,b⟩,fun ⟨h,hl,h0⟩=>?_⟩,fun h=>⟨(h2 h).1,(h2 h).2.1⟩⟩
 have hi:Lib.itoa (Xo s) = s:=by
  rw [aaK] at h
  split at h
  ·simp only [zv,kA] at h;exact h.2
  ·cases h
 have:=aj6 h0 (by omega:Xo s < 1000000000000000)
 rw [hi] at this
 rw [this]
 exact ⟨rfl,hl⟩
theorem aiT:∀ {l:List Int} {n:Int},l.Pairwise (· < ·)→(n∈l→aeQ l n = none)∧(n ∉ l→∃ m,aeQ l n = some m∧m.Perm (n :: l)∧m.Pairwise (· < ·))
 | [],n,_=>⟨fun h=>by simp at h,fun _=>⟨[n],rfl,List.Perm.refl _,by simp⟩⟩
 | x :: r,n,h=>by
   have hr:=Za.1 h
   obtain ⟨i1,i2⟩:=aiT (l:=r) (n:=n) hr.2
   by_cases hx:x < n
   ·refine ⟨fun hm=>?_,fun hm=>?_⟩
    ·rcases zn.1 hm with rfl|hm
     ·omega
     ·rw [aeQ,if_pos hx,i1 hm];rfl
    ·obtain ⟨m,h1,h2,h3⟩:=i2 fun h=>hm (kc _ h)
     refine ⟨x :: m,by rw [aeQ,if_pos hx,h1];rfl,(h2.cons x).trans (List.Perm.swap _ _ _),Za.2 ⟨fun y hy=>?_,h3⟩⟩
     rcases zn.1 (h2.mem_iff.1 hy) with rfl|hy
     ·exact hx
     ·exact hr.1 y hy
   ·by_cases he:x = n
    ·subst he
     exact ⟨fun _=>by rw [aeQ,if_neg hx,if_pos rfl],fun hm=>absurd (by simp) hm⟩
    ·refine ⟨fun hm=>?_,fun hm=>⟨n :: x :: r,by rw [aeQ,if_neg hx,if_neg he],List.Perm.refl _,Za.2 ⟨fun y hy=>?_,h⟩⟩⟩
     ·rcases zn.1 hm with rfl|hm
      ·exact absurd rfl he
      ·have:=hr.1 n hm;omega
     ·rcases zn.1 hy with rfl|hy
      ·omega
      ·have:=hr.1 y hy;omega
theorem aga {l:List Int} (h:l.Nodup):(jy l).Pairwise (· < ·):=by
 have ho:=agM (lt:=fun x y:Int=>decide (x < y)) (fun x y z h h'=>by simp at *;omega) (fun x y h=>by simp at *;omega) l
 have hn:(jy l).Nodup:=(xJ (lt:=fun x y:Int=>decide (x < y)) (l:=l)).nodup_iff.2 h
 exact (ho.and hn).imp fun {a b} h=>by
  have h1:decide (b < a) = false:=h.1
  have h2:a≠b:=h.2
  simp at h1;omega
theorem af9 {l:List Int} {n:Int} (h:l.Nodup):aeQ (jy l) n = if n∈l then none else some (jy (l++[n])):=by
 obtain ⟨h1,h2⟩:=aiT (n:=n) (aga h)
 have hm:n∈jy l↔n∈l:=al8
 by_cases hn:n∈l
 ·rw [if_pos hn,h1 (hm.2 hn)]
 ·obtain ⟨m,e1,e2,e3⟩:=h2 fun h=>hn (hm.1 h)
  have hnd:(l++[n]).Nodup:=kj.2 ⟨h,by simp,fun a ha b hb e=>by simp at hb;subst hb;subst e;exact hn ha⟩
  rw [if_neg hn,e1]
  congr 1
  have p1:m.Perm (jy (l++[n])):=e2.trans (((xJ (lt:=fun x y:Int=>decide (x < y)) (l:=l)).cons n).trans ((List.perm_append_comm (l₁:=[n]) (l₂:=l)).trans xJ.symm))
  exact p1.eq_of_pairwise (le:=(· < ·)) (fun a b _ _ h3 h4=>by omega) e3 (aga hnd)
theorem aef {of:List UInt8→Int×Bool}:∀ {l:List (List UInt8)} {acc:List Int},acc.Nodup→(wU of l acc).2.Nodup
 | [],acc,h=>h
 | s :: r,acc,h=>by
   rw [wU]
   split
   ·rename_i hc
    exact aef (kj.2 ⟨h,by simp,fun a ha b hb e=>by simp at hb;subst hb;subst e;exact hc.2 ha⟩)
   ·exact h
theorem aog (s:List UInt8):((jF s).2 = true∧(jF s).1≤2147483648↔(afF s).2 = true)∧((jF s).2 = true→(jF s).1 = (afF s).1):=by
 obtain ⟨h1,h2⟩:=ajk (s:=s) (m:=2147483648) (by omega)
 refine ⟨h1.trans ?_,fun h=>(h2 h).1⟩
 simp only [afF,wc,zv,zL]
 constructor
 ·rintro ⟨a,b,c⟩;exact ⟨a,c,b⟩
 ·rintro ⟨a,b,c⟩;exact ⟨a,c,b⟩
theorem amP:∀ (l:List (List UInt8)) (acc:List Int),acc.Nodup→(aoh l (jy acc)).1 = (wU afF l acc).1∧((wU afF l acc).1 = true→(aoh l (jy acc)).2 = jy (wU afF l acc).2)
 | [],acc,_=>⟨rfl,fun _=>rfl⟩
 | s :: r,acc,hn=>by
   obtain ⟨c1,c2⟩:=aog s
   rw [aoh,wU]
   by_cases h:(jF s).2 = true∧(jF s).1≤2147483648
   ·have hv:=c2 h.1
    have hb:=c1.1 h
    rw [if_pos h,af9 hn,hv]
    by_cases hm:(afF s).1∈acc
    ·rw [if_pos hm,if_neg (fun h=>h.2 hm)]
     exact ⟨rfl,fun h=>by simp at h⟩
    ·rw [if_neg hm,if_pos ⟨hb,hm⟩]
     exact amP r _ (kj.2 ⟨hn,by simp,fun a ha b hb e=>by simp at hb;subst hb;subst e;exact hm ha⟩)
   ·rw [if_neg h,if_neg (fun h'=>h (c1.2 h'.1))]
    exact ⟨rfl,fun h=>by simp at h⟩
theorem al5:∀ (l:List (List UInt8)) (acc:List Int),acc.Nodup→(akP l (jy acc)).1 = (wU ahF l acc).1∧((wU ahF l acc).1 = true→(akP l (jy acc)).2 = jy (wU ahF l acc).2)
 | [],acc,_=>⟨rfl,fun _=>rfl⟩
 | s :: r,acc,hn=>by
   rw [akP,wU]
   by_cases h:Un (JR s 0 QR) = true
   ·rw [if_pos h,af9 hn]
    by_cases hm:JR s 0 QR∈acc
    ·rw [if_pos hm,if_neg (fun h=>h.2 hm)]
     exact ⟨rfl,fun h=>by simp at h⟩
    ·rw [if_neg hm,if_pos ⟨h,hm⟩]
     exact al5 r _ (kj.2 ⟨hn,by simp,fun a ha b hb e=>by simp at hb;subst hb;subst e;exact hm ha⟩)
   ·rw [if_neg h,if_neg (fun h'=>h h'.1)]
    exact ⟨rfl,fun h=>by simp at h⟩
theorem agr:∀ {l m:List Int},l.Nodup→(∀ x∈l,x∈m)→l.length≤m.length
 | [],m,_,_=>zu _
 | x :: r,m,h,hm=>by
   have hc:=Zo.1 h
   have hx:=hm x (by simp)
   have:=agr (l:=r) (m:=m.erase x) hc.2 fun y hy=>(List.mem_erase_of_ne (fun (e:y = x)=>hc.1 (e ▸ hy))).2 (hm y (kc _ hy))
   rw [List.length_erase_of_mem hx] at this
   have:=List.length_pos_of_mem hx
   simp only [List.length_cons];omega
theorem aiZ {of:List UInt8→Int×Bool}:∀ {l:List (List UInt8)} {acc:List Int},(wU of l acc).1 = true→(wU of l acc).2.length = acc.length + l.length
 | [],acc,h=>rfl
 | s :: r,acc,h=>by
   rw [wU] at h ⊢
   split at h
   ·rename_i hc;rw [if_pos hc,aiZ h];simp;omega
   ·cases h
theorem ai0 {of:List UInt8→Int×Bool} {p:Int→Prop} (hp:∀ s,(of s).2 = true→p (of s).1):∀ {l:List (List UInt8)} {acc:List Int},(∀ n∈acc,p n)→∀ n∈(wU of l acc).2,p n
 | [],acc,h=>h
 | s :: r,acc,h=>by
   rw [wU]
   split
   ·rename_i hc
    exact ai0 hp fun n hn=>by
     rcases zW.1 hn with hn|hn
     ·exact h n hn
     ·rw [zQ.1 hn];exact hp s hc.1
   ·exact h
theorem anJ {n:Int} (h:Un n = true):n∈([1,2,3,4]:List Int):=by
 by_cases hr:1≤n∧n≤22
 ·have key:∀ k:Nat,k < 23→Un (k:Int) = true→(k:Int)∈([1,2,3,4]:List Int):=by decide +kernel
  have:=key n.toNat (by omega)
  rw [show ((n.toNat:Nat):Int) = n by omega] at this
  exact this h
 ·rw [Un,J5,if_neg hr] at h;cases h
theorem aps {l:List (List UInt8)} (h:(wU ahF l []).1 = true):l.length≤4:=by
 have h1:=aiZ h
 have h2:=agr (m:=[1,2,3,4]) (aef (of:=ahF) (l:=l) (acc:=[]) zT) (ai0 (p:=fun n=>n∈([1,2,3,4]:List Int)) (fun s hs=>anJ hs) (fun n hn=>by simp at hn))
 simp at h1 h2;omega
def Xd (st:List Qs) (w:List UInt8) (l:List (List UInt8)) (e:QI):Bool×QI :=
 if w = [108,101,97,115,116] then (af1 l,{ e with least:=aiI e.least l })
 else if w = [109,111,115,116] then (af1 l,{ e with most:=aiI e.most l })
 else if w = [115,117,105,116,101,115] then (lsB l,{ e with suites:=lsL e.suites l })
 else if w = [111,114,100,101,114] then (ch2 [111,119,110] [99,108,105,101,110,116] l,{ e with own:=chL [111,119,110] l })
 else if w = [107,101,121,115] then ((abr st l).1,{ e with idents:=(abr st l).2 })
 else if w = [97,110,99,104,111,114,115] then ((wV afF 16 l).1,{ e with anchors:=(wV afF 16 l).2 })
 else if w = [104,97,115,104,101,115] then ((wV ahF 22 l).1,{ e with hashes:=(wV ahF 22 l).2 })
 else (ch2 [121,101,115] [110,111] l,{ e with fall:=chL [121,101,115] l })
theorem aqi (v:List UInt8):((jF v).2 = true∧1≤(jF v).1∧(jF v).1≤4↔amY v = true)∧((jF v).2 = true→(jF v).1 = Xo v):=by
 obtain ⟨h1,h2⟩:=ajk (s:=v) (m:=4) (by omega)
 refine ⟨?_,fun h=>(h2 h).1⟩
 simp only [amY,zv,zL]
 constructor
 ·rintro ⟨a,b,c⟩
  have:=h1.1 ⟨a,c⟩
  have:=h2 a
  exact ⟨by simp [*],by omega,by omega⟩
 ·rintro ⟨a,b,c⟩
  have h3:=h1.2 ⟨a,c,by omega⟩
  have:=h2 h3.1
  exact ⟨h3.1,by omega,h3.2⟩
theorem aoc {st:List Qs} {w:List UInt8} {l:List (List UInt8)} {e:QI} (hw:w∈Y2):(WD st w l e).1 = (Xd st w l e).1∧((Xd st w l e).1 = true→(WD st w l e).2 = (Xd st w l e).2):=by
 have hver:∀ v,w = [108,101,97,115,116]∨w = [109,111,115,116]→arb w v e = if amY v = true then (true,if w = [108,101,97,115,116] then { e with least:=Xo v } else { e with most:=Xo v }) else (false,e):=fun v hw=>by
  obtain ⟨h1,h2⟩:=aqi v
  rw [arb,if_pos hw]
  by_cases h:amY v = true
  ·have h3:=h1.2 h
   rw [if_pos h,if_pos h3,h2 h3.1]
  ·rw [if_neg h,if_neg (fun h'=>h (h1.1 h'))]
 simp only [Y2,zn,zw,or_false] at hw
 rcases hw with rfl|rfl|rfl|rfl|rfl|rfl|rfl|rfl
 ·unfold WD Xd
  rw [if_neg (by decide),if_neg (by decide),if_neg (by decide),if_pos rfl]
  rcases l with _|⟨v,_|⟨t,r⟩⟩
  ·exact ⟨rfl,fun h=>by simp [af1] at h⟩
  ·simp only [hver v (.inl rfl),af1,aiI]
   by_cases h:amY v = true
   ·rw [if_pos h];exact ⟨h.symm,fun _=>rfl⟩
   ·rw [if_neg h];exact ⟨by simp [h],fun h'=>absurd h' h⟩
  ·exact ⟨rfl,fun h=>by simp [af1] at h⟩
 ·unfold WD Xd
  rw [if_neg (by decide),if_neg (by decide),if_neg (by decide),if_neg (by decide),if_pos rfl]
  rcases l with _|⟨v,_|⟨t,r⟩⟩
  ·exact ⟨rfl,fun h=>by simp [af1] at h⟩
  ·simp only [hver v (.inr rfl),af1,aiI]
   by_cases h:amY v = true
   ·rw [if_pos h];exact ⟨h.symm,fun _=>rfl⟩
   ·rw [if_neg h];exact ⟨by simp [h],fun h'=>absurd h' h⟩
  ·exact ⟨rfl,fun h=>by simp [af1] at h⟩
 ·unfold WD Xd
  rw [if_neg (by decide),if_neg (by decide),if_neg (by decide),if_neg (by decide),if_neg (by decide),if_pos rfl]
  rcases l with _|⟨v,_|⟨t,r⟩⟩
  ·exact ⟨rfl,fun h=>by simp [lsB] at h⟩
  ·exact ⟨rfl,fun _=>rfl⟩
  ·exact ⟨rfl,fun h=>by simp [lsB] at h⟩
 ·unfold WD Xd
  rw [if_neg (by decide),if_neg (by decide),if_neg (by decide),if_neg (by decide),if_neg (by decide),if_neg (by decide),if_pos rfl]
  rcases l with _|⟨v,_|⟨t,r⟩⟩
  ·exact ⟨rfl,fun h=>by simp [ch2] at h⟩
  ·exact ⟨rfl,fun _=>rfl⟩
  ·exact ⟨rfl,fun h=>by simp [ch2] at h⟩
 ·unfold WD Xd
  rw [if_pos rfl,if_neg (by decide),if_neg (by decide),if_neg (by decide),if_neg (by decide),if_pos rfl,aia,abr]
  by_cases h4:l.length > 4
  ·rw [if_pos h4,zm (by omega),zG];exact ⟨rfl,fun h=>by simp at h⟩
  ·rw [if_neg h4,zl (by omega),zS];exact ⟨rfl,fun _=>rfl⟩
 ·unfold WD Xd
  rw [if_neg (by decide),if_pos rfl,if_neg (by decide),if_neg (by decide),if_neg (by decide),if_neg (by decide),if_neg (by decide),if_pos rfl,ap4]
  obtain ⟨g1,g2⟩:=amP l [] zT
  rw [show jy [] = [] from rfl] at g1 g2
  by_cases h16:l.length > 16
  ·rw [if_pos h16]
   have hf:(wV afF 16 l).1 = false:=by
    rw [wV];split
    ·exact zm (by omega)
    ·rfl
   simp only [hf]
   exact ⟨trivial,fun h=>by simp at h⟩
  ·rw [if_neg h16]
   by_cases h:(wU afF l []).1 = true
   ·have hv:wV afF 16 l = (true,jy (wU afF l []).2):=by rw [wV,if_pos h,zl (by omega)]
    simp only [hv,g1,h,g2 h]
    exact ⟨trivial,fun _=>trivial⟩
   ·have hf:(wV afF 16 l).1 = false:=by rw [wV,if_neg h]
    simp only [hf,g1]
    exact ⟨by simpa using h,fun h=>by simp at h⟩
 ·unfold WD Xd
  rw [if_neg (by decide),if_neg (by decide),if_pos rfl,if_neg (by decide),if_neg (by decide),if_neg (by decide),if_neg (by decide),if_neg (by decide),if_neg (by decide),if_pos rfl]
  obtain ⟨g1,g2⟩:=al5 l [] zT
  rw [show jy [] = [] from rfl] at g1 g2
  by_cases h:(wU ahF l []).1 = true
  ·have h4:=aps h
   have hv:wV ahF 22 l = (true,jy (wU ahF l []).2):=by rw [wV,if_pos h,zl (by omega)]
   simp only [hv,g1,h,g2 h]
   exact ⟨trivial,fun _=>trivial⟩
  ·have hf:(wV ahF 22 l).1 = false:=by rw [wV,if_neg h]
   simp only [hf,g1]
   exact ⟨by simpa using h,fun h=>by simp at h⟩
 ·unfold WD Xd
  rw [if_neg (by decide),if_neg (by decide),if_neg (by decide),if_neg (by decide),if_neg (by decide),if_neg (by decide),if_neg (by decide),if_neg (by decide),if_neg (by decide),if_neg (by decide)]
  rcases l with _|⟨v,_|⟨t,r⟩⟩
  ·exact ⟨rfl,fun h=>by simp [ch2] at h⟩
  ·exact ⟨rfl,fun _=>rfl⟩
  ·exact ⟨rfl,fun h=>by simp [ch2] at h⟩
def aaj (st:List Qs):List PIt→QI→Option Int×QI
 | [],e=>(none,e)
 | x :: r,e=>if (Xd st x.word x.vals e).1 = true then aaj st r (Xd st x.word x.vals e).2 else (some x.line,e)
def ahS (st:List Qs):List PIt→QI→Option Int×QI
 | [],e=>(none,e)
 | x :: r,e=>if (WD st x.word x.vals e).1 = true then ahS st r (WD st x.word x.vals e).2 else (some x.line,e)
theorem aon {st:List Qs}:∀ {l:List PIt} {e:QI},(∀ x∈l,x.word∈Y2)→ahS st l e = aaj st l e
 | [],e,_=>rfl
 | x :: r,e,h=>by
   obtain ⟨h1,h2⟩:=aoc (st:=st) (l:=x.vals) (e:=e) (h x (by simp))
   rw [ahS,aaj,h1]
   by_cases hb:(Xd st x.word x.vals e).1 = true
   ·rw [if_pos hb,if_pos hb,h2 hb];exact aon fun y hy=>h y (kc _ hy)
   ·rw [if_neg hb,if_neg hb]
def akm:QI:=⟨[],0,0,[],false,[],[],[],false⟩
def ahH (name:List UInt8):QI:=⟨name,1,4,[1,2,3,4,5,6,7,8,9,10,11,12,13,14,15,16],false,[],[],[],false⟩
def afW (n k:Int):V:=.tup [akm.v,V.int n,V.int k]
def aaq (r:Option Int×QI):V:=match r with
 | (some n,_)=>afW n 18
 | (none,e)=>if e.least≤e.most then .tup [e.v,V.int 0,V.int 0] else afW 0 19
theorem jR (n k:Int):(afW n k).closed:=by simp only [afW,QI.v,QI.cells,V.closed,Qa,and_self]
theorem aa3 (r:Option Int×QI):(aaq r).closed:=by
 obtain ⟨_|n,e⟩:=r
 ·simp only [aaq];split
  ·simp only [QI.v,QI.cells,V.closed,Qa,and_self]
  ·exact jR _ _
 ·exact jR _ _
theorem ajT:Xm [97,108,108] = ([1,2,3,4,5,6,7,8,9,10,11,12,13,14,15,16],0,0):=by decide +kernel
def KQ (name:List UInt8) (st:List Qs):Int:=if jb name = true then (if yB st = true then 0 else 16) else 14
def UI:=qd Proofs.Tryz.f42 []
def qR (Γ:Env) (f:Nat):Prop:=∀ (name:List UInt8) (st:List Qs) (hn:name.length < 2 ^ 30) (hk:st.length < 2 ^ 60) (hs:∀ x∈st,x.Sm),EvN Γ f [V.str name,.sl 6 (st.map Qs.v)] (V.int (KQ name st))
theorem adn {Γ:Env} {f:Nat} (h:Has Γ.P f 10 UI.1.1.ac UI.1.2) (z0:U0 Γ 57) (z1:qW Γ 25):qR Γ f:=by
 intro name st hn hk hs
 refine Qb h zsi zcl zcl fun C hC hm=>?_
 subst hC
 simp only [UI,qd,DC.ac]
 have hw:=(z0 name hn).b
 have hc:=(z1 st hk hs).b
 rename EvB _ _ _ _ _=>gc
 rcases hq:jb name with _|_
 ·rw [hq] at hw
  rw [KQ,if_neg (by rw [hq];decide)]
  exact zg
 ·rw [hq] at hw
  rw [KQ,if_pos hq]
  exact zg
def Xk:List V:=[.top,.top,.top,.top,.top,.top,.top,.top,.top]
theorem JJ {o:Nat→Option Ob} {br:List Nat} {B:Option (List Nat)} (a b c d e f g h i:V):Qz o br B [a,b,c,d,e,f,g,h,i] Xk:=by
 simp only [Xk,Qz,aoH,and_self]
theorem aqI {o:Nat→Option Ob} {br:List Nat} {B:Option (List Nat)} (name:List UInt8):Qz o br B [V.str name,V.int 1,V.int 4,.sl 1 (([1,2,3,4,5,6,7,8,9,10,11,12,13,14,15,16]:List Int).map V.int),V.bool false,.sc (.slice none 0 0),.sc (.slice none 0 0),.sc (.slice none 0 0),V.bool false] (ahH name).cells:=by
 simp [ahH,QI.cells,Qz,conv,V.int,V.str,V.bool]
def KR:=qd Proofs.Tryz.f45 [⟨fun _=>false,[3,5],.one 0 (.one 1 (.one 2 (.or 3 (.one 4 (.or 5 (.one 6 (.one 7 (.one 8 (.done)))) (.or 6 (.one 5 (.one 7 (.one 8 (.done)))) (.done)))) (.or 6 (.one 3 (.one 4 (.one 5 (.one 7 (.one 8 (.done)))))) (.done)))))⟩]
def yg (Γ:Env) (f:Nat):Prop:=∀ (name:List UInt8) (l:List PIt) (st:List Qs) (hl:l.length < 2 ^ 60) (sm:∀ x∈l,x.Sm) (hw:∀ x∈l,x.word∈Y2) (hk:st.length < 2 ^ 60) (hs:∀ x∈st,x.Sm),EvC Γ f [V.str name,.sl 3 (l.map PIt.v),.sl 6 (st.map Qs.v)] (aaq (aaj st l (ahH name)))
attribute [local go_sem] PIt.v in
theorem ae5 {Γ:Env} {f:Nat} (h:Has Γ.P f 45 KR.1.1.ac KR.1.2) (z0:V4 Γ 112) (z1:qS Γ 113):yg Γ f:=by
 intro name l st hl sm hw hk hs
 refine Qn h zsi (aa3 _) fun C hC hm=>?_
 subst hC
 simp only [KR,qd,DC.ac]
 have hm:C.m = 0:=by simpa using hm
 have hlm:(l.map PIt.v).length = l.length:=zh _
 rw [← aon hw]
 generalize hG:ahS st l (ahH name) = G
 have hp:=(z0 [97,108,108] (by decide)).b
 rw [Vr,ajT] at hp
 refine zgo ?_;repeat' first|exact zt|apply zan|intro hc
 refine JO (ι:=Nat×QI) (fun q=>q.1≤l.length∧ahS st (l.drop q.1) q.2 = G) (fun q=>stL [(1,.sl 3 (l.map PIt.v)),(2,.sl 6 (st.map Qs.v)),(6,.ptr 0 0),(9,.ptr 1 0),(10,V.int q.1)] [.box true Xk,.box true q.2.cells]) (fun q=>l.length - q.1) (0,ahH name) ⟨zu _,hG⟩ (wK [0,5000] (by rw [hm];rfl) ⟨⟨_,rfl,fun h=>h,JJ _ _ _ _ _ _ _ _ _⟩,⟨_,rfl,fun h=>h,aqI name⟩,trivial⟩) fun q hq K' hL=>?_
 obtain ⟨k,e⟩:=q
 obtain ⟨hk1,hinv⟩:=hq
 simp only at hk1 hinv hL ⊢
 rcases hd:l.drop k with _|⟨x,r⟩
 ·have hkl:=Qj hd
  have e1:decide ((k:Int) < ((l.length:Nat):Int)) = false:=by simp;omega
  rw [hd,ahS] at hinv
  subst hinv
  simp only [stL,QI.cells,Xk]
  by_cases hle:e.least≤e.most
  ·have e2:decide (e.least > e.most) = false:=by simp;omega
   simp only [aaq,if_pos hle,QI.v,QI.cells]
   (have zx:=za e1 (za e2 hlm));exact zg
  ·have e2:decide (e.least > e.most) = true:=by simp;omega
   simp only [aaq,if_neg hle,afW,akm,QI.v,QI.cells]
   (have zx:=za e1 (za e2 hlm));exact zg
 ·obtain ⟨hk',hget,hr⟩:=Qf hd
  have hwi:=Qc (k:=k) (by omega)
  have e1:decide ((k:Int) < ((l.length:Nat):Int)) = true:=by simp;omega
  rw [hd,ahS] at hinv
  have ha:=z1 x e st (sm x (zk hget)) hk hs
  have hcl:=XA (WD st x.word x.vals e).2
  generalize WD st x.word x.vals e = ap at *
  obtain ⟨b,e'⟩:=ap
  simp only [QI.cells,PIt.v] at ha
  rcases b with _|_
  ·rw [if_neg (by simp)] at hinv
   subst hinv
   simp only [stL,QI.cells,Xk,aaq,afW,akm,QI.v,zo]
   (have zx:=za e1 (za hwi (za hlm hget)));exact zg
  ·rw [if_pos rfl] at hinv
   simp only [stL,QI.cells,Xk]
   (have zx:=za e1 (za hwi (za hlm hget)));refine zgo ?_;repeat' first|exact zt|apply zan|intro hc
   all_goals exact hL _ (k + 1,e') ⟨by simp only;omega,by rw [hr];exact hinv⟩ (by simp only;omega) (wK [0,1] (by rw [hm];rfl) ⟨⟨_,rfl,fun h=>h,JJ _ _ _ _ _ _ _ _ _⟩,⟨_,rfl,fun h=>h,Qg _ _ _ _ hcl⟩,trivial⟩)
def itS (x:JU):PIt:=⟨x.name,Uj x,x.line⟩
def qy:List JU→List PIt
 | []=>[]
 | x :: r=>if r.any (fun y=>y.name == x.name) = true then qy r else itS x :: qy r
def ac9 (l:List JU) (name:List UInt8):List JU:=l.filter fun x=>x.sec == name
def adJ (x:JU):Bool:=!decide (x.name∈Y2)
def acs (l:List JU) (name:List UInt8) (st:List Qs):V :=
 if KQ name st≠0 then afW 0 (KQ name st) else
 if ac9 l name = [] then afW 0 4 else
 match (ac9 l name).find? adJ with
 | some x=>afW x.line 17
 | none=>aaq (aaj st (qy (ac9 l name)) (ahH name))
theorem aa7 (l:List JU) (name:List UInt8) (st:List Qs):(acs l name st).closed:=by
 unfold acs
 repeat' split
 all_goals first|exact jR _ _|exact aa3 _
theorem agn {l:List JU} {name:List UInt8} {k:Nat} {x:JU} (h:l[k]? = some x):ac9 (l.take (k + 1)) name = if (x.sec == name) = true then ac9 (l.take k) name++[x] else ac9 (l.take k) name:=by
 rw [zy,h,ac9,kG]
 by_cases hx:(x.sec == name) = true
 ·rw [if_pos hx];simp [ac9,hx]
 ·rw [if_neg hx];simp [ac9,hx]
theorem aeS (l:List JU) (name:List UInt8):(ac9 l name).length≤l.length:=kp _ _
theorem y4:∀ {l:List JU} {y:PIt},y∈qy l→∃ x∈l,y = itS x
 | [],y,h=>by simp [qy] at h
 | x :: r,y,h=>by
   rw [qy] at h
   split at h
   ·obtain ⟨z,hz,e⟩:=y4 h;exact ⟨z,kc _ hz,e⟩
   ·rcases zn.1 h with rfl|h
    ·exact ⟨x,by simp,rfl⟩
    ·obtain ⟨z,hz,e⟩:=y4 h;exact ⟨z,kc _ hz,e⟩
theorem agA:∀ l:List JU,(qy l).length≤l.length
 | []=>zi _
 | x :: r=>by
   have:=agA r
   rw [qy];split<;>simp only [List.length_cons]<;>omega
theorem alV {x:JU} (h:x.val.length < 2 ^ 27):(itS x).Sm:=by
 refine ⟨?_,?_⟩
 ·show (Uj x).length < 2 ^ 28
  unfold Uj
  split
  ·have:=afD x.val [];unfold J7;omega
  ·simp
 ·intro s hs
  have hs:s∈Uj x:=hs
  unfold Uj at hs
  split at hs
  ·have:=abW x.val [] s hs;simp at this;omega
  ·rw [zQ.1 hs];omega
theorem agE {o:Nat→Option Ob} {br:List Nat} {B:Option (List Nat)} {ys zs:List V} (h:Kg o br B ys zs):∀ l:List PIt,Kg o br B (l.map PIt.v++ys) (l.map PIt.v++zs)
 | []=>h
 | x :: r=>⟨Qg _ _ _ _ (by simp [PIt.v,V.cells,Qa,V.closed]),agE h r⟩
theorem wt:∀ l:List PIt,Kh (l.map PIt.v)
 | []=>trivial
 | x :: r=>⟨by simp [PIt.v,V.cells,Qa,V.closed],wt r⟩
theorem abS {o:Nat→Option Ob} {br:List Nat} {n:Nat} {acc:List PIt} {x:JU} {vs:List (List UInt8)} (hv:vs = Uj x) (h:o n = some (.buf true 1 (vs.map V.str))) (hn:n ∉ br):Kg o br none (acc.map PIt.v++[.agg [V.str x.name,.hd n 0 vs.length,V.int x.line]]) ((acc++[itS x]).map PIt.v):=by
 subst hv
 rw [zD]
 refine agE (ys:=[.agg [V.str x.name,.hd n 0 (Uj x).length,V.int x.line]]) (zs:=[(itS x).v]) ?_ acc
 refine ⟨?_,trivial⟩
 show Qz _ _ _ [V.str x.name,.hd n 0 (Uj x).length,V.int x.line] [V.str x.name,.sl 1 ((Uj x).map V.str),V.int x.line]
 exact ⟨by simp [conv,V.str],aaL h hn,by simp [conv,V.int],trivial⟩
theorem anC (r:Option Int×QI):∃ e n k,aaq r = .tup [QI.v e,V.int n,V.int k]:=by
 obtain ⟨_|n,e⟩:=r
 ·simp only [aaq];split
  ·exact ⟨_,_,_,rfl⟩
  ·exact ⟨_,_,_,rfl⟩
 ·exact ⟨_,_,_,rfl⟩
theorem ajt {own:List JU} (h:own.find? adJ = none):∀ x∈own,x.name∈Y2:=fun x hx=>by
 have:=List.find?_eq_none.1 h x hx
 simpa [adJ] using this
theorem aju {own:List JU} {k:Nat} {x:JU} {r:List JU} (hd:own.drop k = x :: r) (h:(own.take k).find? adJ = none):(x.name∈Y2→(own.take (k + 1)).find? adJ = none)∧(x.name ∉ Y2→own.find? adJ = some x):=by
 obtain ⟨hk,hget,hr⟩:=Qf hd
 refine ⟨fun hx=>?_,fun hx=>?_⟩
 ·rw [zy,hget,List.find?_append,h];simp [adJ,hx]
 ·rw [← zZ k own,hd,List.find?_append,h];simp [adJ,hx]
def Yw:=qd Proofs.Tryz.f17 [zhn 19,zhn 15,⟨fun _=>false,[3,5],.one 0 (.one 1 (.one 2 (.or 3 (.one 4 (.or 5 (.one 6 (.one 7 (.one 8 (.done)))) (.or 6 (.one 5 (.one 7 (.one 8 (.done)))) (.done)))) (.or 6 (.one 3 (.one 4 (.one 5 (.one 7 (.one 8 (.done)))))) (.done)))))⟩]
def Xq (Γ:Env) (f:Nat):Prop:=∀ (l:List JU) (name:List UInt8) (st:List Qs) (hn:name.length < 2 ^ 30) (hl:l.length < 2 ^ 27) (hv:∀ x∈l,x.val.length < 2 ^ 27) (hk:st.length < 2 ^ 60) (hs:∀ x∈st,x.Sm),EvC Γ f [.sl 4 (l.map JU.v),V.str name,.sl 6 (st.map Qs.v)] (acs l name st)
attribute [local go_sem] List.length_nil zR JU.cells JU.v in
theorem y7 {Γ:Env} {f:Nat} (h:Has Γ.P f 146 Yw.1.1.ac Yw.1.2) (z0:qR Γ 42) (z1:qQ Γ 43) (z2:Km Γ 44) (z3:yg Γ 45):Xq Γ f:=by
 intro l name st hn hl hv hk hs
 refine Qn h zsi (aa7 _ _ _) fun C hC hm=>?_
 subst hC
 simp only [Yw,qd,DC.ac]
 have hm:C.m = 0:=by simpa using hm
 have hlm:(l.map JU.v).length = l.length:=zh _
 have hb:=(z0 name st hn hk hs).b
 by_cases h0:KQ name st≠0
 ·rw [acs,if_pos h0]
  generalize KQ name st = er at *
  have e0:(er != 0) = true:=by simpa using h0
  simp only [afW,akm,QI.v,QI.cells,zo]
  (have zx:=e0);exact zg
 have h0:KQ name st = 0:=by simpa using h0
 rw [h0] at hb
 refine zgo ?_;repeat' first|exact zt|apply zan|intro hc
 refine JO (ι:=Nat) (fun k=>k≤l.length) (fun k=>stL [(0,.sl 4 (l.map JU.v)),(1,V.str name),(2,.sl 6 (st.map Qs.v)),(6,.ptr 0 0),(10,.hd 1 0 (ac9 (l.take k) name).length),(11,V.int k)] [.box true Xk,.buf true 4 ((ac9 (l.take k) name).map JU.v)]) (fun k=>l.length - k) 0 (zu _) (by rw [show ac9 (l.take 0) name = [] from rfl];exact wK [0,9000] (by rw [hm];rfl) ⟨⟨_,rfl,fun h=>h,JJ _ _ _ _ _ _ _ _ _⟩,⟨_,rfl,fun h=>h,rfl,rfl⟩,trivial⟩) fun k hk2 K' hL=>?_
 rcases hd:l.drop k with _|⟨x,r⟩
 ·have hkl:=Qj hd
  have e1:decide ((k:Int) < ((l.length:Nat):Int)) = false:=by simp;omega
  rw [zb hkl]
  have hol:=aeS l name
  have hmem:∀ x∈ac9 l name,x.val.length < 2 ^ 27:=fun x hx=>hv x (List.mem_filter.1 hx).1
  rw [acs,if_neg (by rw [h0];simp)]
  generalize ac9 l name = own at *
  clear hL
  simp only [stL,Xk]
  by_cases hq:own = []
  ·subst hq
   rw [if_pos rfl]
   simp only [afW,akm,QI.v,QI.cells,zo]
   (have zx:=za e1 hlm);exact zg
  rw [if_neg hq]
  have e2:(((own.length:Nat):Int) == 0) = false:=by
   have:=List.length_pos_iff.2 hq
   simp;omega
  (have zx:=za e1 (za e2 hlm));refine zgo ?_;repeat' first|exact zt|apply zan|intro hc
  refine JO (ι:=Nat) (fun k=>k≤own.length∧(own.take k).find? adJ = none) (fun k=>stL [(1,V.str name),(2,.sl 6 (st.map Qs.v)),(6,.ptr 0 0),(10,.sl 4 (own.map JU.v)),(12,.hd 1 0 0),(13,V.int k)] [.box true Xk,.buf true 3 []]) (fun k=>own.length - k) 0 ⟨zu _,rfl⟩ (wK [0,7002] (by rw [hm];rfl) ⟨⟨_,rfl,fun h=>h,JJ _ _ _ _ _ _ _ _ _⟩,⟨_,rfl,fun h=>h,rfl,rfl⟩,trivial⟩) fun k hk3 K2 hL2=>?_
  obtain ⟨hk3,hno⟩:=hk3
  have hlo:(own.map JU.v).length = own.length:=zh _
  simp only [stL,Xk]
  rcases hdo:own.drop k with _|⟨x,r⟩
  rotate_left
  ·obtain ⟨hk',hget,hr⟩:=Qf hdo
   have hwi:=Qc (k:=k) (by omega)
   have e3:decide ((k:Int) < ((own.length:Nat):Int)) = true:=by simp;omega
   obtain ⟨g1,g2⟩:=aju hdo hno
   have hkn:=(z1 x.name).b
   by_cases hx:x.name∈Y2
   ·rw [zl hx] at hkn
    (have zx:=za e3 (za hlo (za hwi hget)));refine zgo ?_;repeat' first|exact zt|apply zan|intro hc
    all_goals exact hL2 _ (k + 1) ⟨by omega,g1 hx⟩ (by omega) (wK [0,1] (by rw [hm];rfl) ⟨⟨_,rfl,fun h=>h,JJ _ _ _ _ _ _ _ _ _⟩,⟨_,rfl,fun h=>h,rfl,rfl⟩,trivial⟩)
   ·rw [zm hx] at hkn
    rw [g2 hx]
    simp only [afW,akm,QI.v,QI.cells,zo]
    (have zx:=za e3 (za hlo (za hwi hget)));exact zg
  have hkl:=Qj hdo
  have e3:decide ((k:Int) < ((own.length:Nat):Int)) = false:=by simp;omega
  rw [zb hkl] at hno
  have hwd:=ajt hno
  rw [hno]
  simp only
  clear hL2
  (have zx:=za e3 hlo);refine zgo ?_;repeat' first|exact zt|apply zan|intro hc
  refine JO (ι:=Nat×List PIt) (fun q=>q.1≤own.length∧q.2++qy (own.drop q.1) = qy own∧q.2.length≤q.1) (fun q=>stL [(1,V.str name),(2,.sl 6 (st.map Qs.v)),(6,.ptr 0 0),(10,.sl 4 (own.map JU.v)),(12,.hd 1 0 q.2.length),(14,V.int q.1)] [.box true Xk,.buf true 3 (q.2.map PIt.v)]) (fun q=>own.length - q.1) (0,[]) ⟨zu _,rfl,zu _⟩ (wK [0,1] (by rw [hm];rfl) ⟨⟨_,rfl,fun h=>h,JJ _ _ _ _ _ _ _ _ _⟩,⟨_,rfl,fun h=>h,rfl,rfl⟩,trivial⟩) fun q hq3 K3 hL3=>?_
  clear e3 hkl hdo hk3
  obtain ⟨k,acc⟩:=q
  obtain ⟨hk3,hinv,hal⟩:=hq3
  simp only at hk3 hinv hal hL3 ⊢
  rcases hdo:own.drop k with _|⟨x,r⟩
  ·have hkl:=Qj hdo
   refine amB (s1:=stL [(1,V.str name),(2,.sl 6 (st.map Qs.v)),(6,.ptr 0 0),(10,.sl 4 (own.map JU.v)),(12,.sl 3 (acc.map PIt.v)),(14,V.int k)] [.box true Xk]) (wK [0] (by rw [hm];rfl) ⟨⟨_,rfl,fun h=>h,JJ _ _ _ _ _ _ _ _ _⟩,trivial⟩) ?_
   simp only [stL,Xk]
   have e3:decide ((k:Int) < ((own.length:Nat):Int)) = false:=by simp;omega
   rw [hdo,qy,zU] at hinv
   have hmd:=(z3 name (qy own) st (by have:=agA own;omega) (fun y hy=>by obtain ⟨z,hz,rfl⟩:=y4 hy;exact alV (hmem z hz)) (fun y hy=>by obtain ⟨z,hz,rfl⟩:=y4 hy;exact hwd z hz) hk hs).b
   obtain ⟨e',n',k',hmv⟩:=anC (aaj st (qy own) (ahH name))
   rw [hmv] at hmd ⊢
   have hta:List.take acc.length (acc.map PIt.v) = acc.map PIt.v:=zb (by simp)
   rw [← hinv] at hmd
   simp only [QI.v,QI.cells] at hmd ⊢
   (have zx:=za e3 (za hlo hta));exact zg
  obtain ⟨hk',hget,hr⟩:=Qf hdo
  have hwi:=Qc (k:=k) (by omega)
  have e3:decide ((k:Int) < ((own.length:Nat):Int)) = true:=by simp;omega
  rw [hdo,qy] at hinv
  simp only [stL,Xk]
  (have zx:=za e3 (za hlo hwi));refine zgo ?_;repeat' first|exact zt|apply zan|intro hc
  refine JO (ι:=Nat) (fun i=>i≤r.length) (fun i=>stL [(1,V.str name),(2,.sl 6 (st.map Qs.v)),(6,.ptr 0 0),(10,.sl 4 (own.map JU.v)),(12,.hd 1 0 acc.length),(14,V.int k),(15,V.bool (!(r.take i).any fun y=>y.name == x.name)),(16,V.int (k + 1 + i:Nat))] [.box true Xk,.buf true 3 (acc.map PIt.v)]) (fun i=>r.length - i) 0 (zu _) (wK [0,1] (by rw [hm];rfl) ⟨⟨_,rfl,fun h=>h,JJ _ _ _ _ _ _ _ _ _⟩,⟨_,rfl,fun h=>h,rfl,rfl⟩,trivial⟩) fun i hi K4 hL4=>?_
  simp only [stL,Xk]
  have hrl:r.length = own.length - (k + 1):=by rw [← hr];simp
  by_cases hie:i = r.length
  ·subst hie
   have e4:decide (((k + 1 + r.length:Nat):Int) < ((own.length:Nat):Int)) = false:=by simp;omega
   have hln:acc.length + 1 = (acc++[itS x]).length:=by simp
   have htp:List.take acc.length (acc.map PIt.v) = acc.map PIt.v:=zb (by simp)
   rcases hag:r.any (fun y=>y.name == x.name) with _|_
   ·rw [hag,if_neg (by decide)] at hinv
    have hinv:(acc++[itS x])++qy r = qy own:=by rw [zP];exact hinv
    have hbl:=z2 x.val (by have:=hmem x (zk hget);omega)
    rcases hse:ao4 x.name with _|_
    ·have hvx:[x.val] = Uj x:=by rw [Uj,if_neg (by rw [hse];decide)]
     simp only [ao4,Bool.or_eq_false_iff] at hse
     obtain ⟨s1,s2,s3⟩:=hse
     (have zx:=za e4 (za hlo (za hwi (za hag (za hget (za s1 (za s2 s3)))))));refine zgo ?_;repeat' first|exact zt|apply zan|intro hc
     rw [hln]
     all_goals first|exact hL3 _ (k + 1,acc++[itS x]) ⟨by simp only;omega,by rw [hr];exact hinv,by simp;omega⟩ (by simp only;omega) (wK [0,41002] (by rw [hm];rfl) ⟨⟨_,rfl,fun h=>h,JJ _ _ _ _ _ _ _ _ _⟩,⟨_,rfl,fun h=>h,rfl,by first|exact abS hvx rfl (by decide)|(rw [htp];exact abS hvx rfl (by decide)),wt _⟩,trivial⟩)
    ·have hvx:J7 x.val = Uj x:=by rw [Uj,if_pos hse]
     have hlb:((J7 x.val).map V.str).length = (J7 x.val).length:=zh _
     rcases s1:x.name == [107,101,121,115] with _|_<;>rcases s2:x.name == [97,110,99,104,111,114,115] with _|_<;>rcases s3:x.name == [104,97,115,104,101,115] with _|_
     ·rw [ao4,s1,s2,s3] at hse;cases hse
     all_goals
      (have zx:=za e4 (za hlo (za hwi (za hag (za hget (za s1 (za s2 (za s3 hlb))))))));refine zgo ?_;repeat' first|exact zt|apply zan|intro hc
      rw [hln]
      all_goals first|exact hL3 _ (k + 1,acc++[itS x]) ⟨by simp only;omega,by rw [hr];exact hinv,by simp;omega⟩ (by simp only;omega) (wK [0,49002] (by rw [hm];rfl) ⟨⟨_,rfl,fun h=>h,JJ _ _ _ _ _ _ _ _ _⟩,⟨_,rfl,fun h=>h,rfl,by first|exact abS hvx rfl (by decide)|(rw [htp];exact abS hvx rfl (by decide)),wt _⟩,trivial⟩)
   ·rw [hag,if_pos rfl] at hinv
    (have zx:=za e4 (za hlo (za hwi hag)));refine zgo ?_;repeat' first|exact zt|apply zan|intro hc
    all_goals exact hL3 _ (k + 1,acc) ⟨by simp only;omega,by rw [hr];exact hinv,by simp only;omega⟩ (by simp only;omega) (wK [0,1] (by rw [hm];rfl) ⟨⟨_,rfl,fun h=>h,JJ _ _ _ _ _ _ _ _ _⟩,⟨_,rfl,fun h=>h,rfl,rfl⟩,trivial⟩)
  ·obtain ⟨y,hgy⟩:∃ y,r[i]? = some y:=⟨_,ze (by omega)⟩
   have hgo:own[k + 1 + i]? = some y:=by rw [← hr,List.getElem?_drop] at hgy;exact hgy
   have e4:decide (((k + 1 + i:Nat):Int) < ((own.length:Nat):Int)) = true:=by simp;omega
   have hwj:IntKind.i64.wrap (((k + 1 + i:Nat):Int) + 1) = ((k + 1 + (i + 1):Nat):Int):=Qc (k:=k + 1 + i) (by omega)
   have hta:(r.take (i + 1)).any (fun y=>y.name == x.name) = ((r.take i).any (fun y=>y.name == x.name) || y.name == x.name):=by rw [zy,hgy,List.any_append];simp
   rcases hfl:(r.take i).any (fun y=>y.name == x.name) with _|_
   ·rcases hyx:y.name == x.name with _|_
    ·have e5:(y.name != x.name) = true:=by simpa using hyx
     have hn2:(r.take (i + 1)).any (fun y=>y.name == x.name) = false:=by rw [hta,hfl,hyx];rfl
     (have zx:=za e4 (za hlo (za hwj (za hfl (za hyx (za e5 (za hgo hget)))))));refine zgo ?_;repeat' first|exact zt|apply zan|intro hc
     all_goals exact hL4 _ (i + 1) (by omega) (by omega) (by rw [hn2];exact wK [0,1] (by rw [hm];rfl) ⟨⟨_,rfl,fun h=>h,JJ _ _ _ _ _ _ _ _ _⟩,⟨_,rfl,fun h=>h,rfl,rfl⟩,trivial⟩)
    ·have e5:(y.name != x.name) = false:=by simpa using hyx
     have hn2:(r.take (i + 1)).any (fun y=>y.name == x.name) = true:=by rw [hta,hfl,hyx];rfl
     (have zx:=za e4 (za hlo (za hwj (za hfl (za hyx (za e5 (za hgo hget)))))));refine zgo ?_;repeat' first|exact zt|apply zan|intro hc
     all_goals exact hL4 _ (i + 1) (by omega) (by omega) (by rw [hn2];exact wK [0,1] (by rw [hm];rfl) ⟨⟨_,rfl,fun h=>h,JJ _ _ _ _ _ _ _ _ _⟩,⟨_,rfl,fun h=>h,rfl,rfl⟩,trivial⟩)
   ·have hn2:(r.take (i + 1)).any (fun y=>y.name == x.name) = true:=by rw [hta,hfl];rfl
    (have zx:=za e4 (za hlo (za hwj (za hfl (za hgo hget)))));refine zgo ?_;repeat' first|exact zt|apply zan|intro hc
    all_goals exact hL4 _ (i + 1) (by omega) (by omega) (by rw [hn2];exact wK [0,1] (by rw [hm];rfl) ⟨⟨_,rfl,fun h=>h,JJ _ _ _ _ _ _ _ _ _⟩,⟨_,rfl,fun h=>h,rfl,rfl⟩,trivial⟩)
 ·obtain ⟨hk',hget,hr⟩:=Qf hd
  have hwi:=Qc (k:=k) (by omega)
  have e1:decide ((k:Int) < ((l.length:Nat):Int)) = true:=by simp;omega
  have hot:=agn (name:=name) hget
  have hol:=aeS (l.take k) name
  have hlt:(l.take k).length≤k:=by simp;omega
  simp only [stL,Xk]
  rcases hx:x.sec == name with _|_
  ·rw [hx,if_neg (by decide)] at hot
   (have zx:=za e1 (za hlm (za hwi (za hget hx))));refine zgo ?_;repeat' first|exact zt|apply zan|intro hc
   all_goals exact hL _ (k + 1) (by omega) (by omega) (by rw [hot];exact wK [0,1] (by rw [hm];rfl) ⟨⟨_,rfl,fun h=>h,JJ _ _ _ _ _ _ _ _ _⟩,⟨_,rfl,fun h=>h,rfl,rfl⟩,trivial⟩)
  ·rw [hx,if_pos rfl] at hot
   generalize ac9 (l.take k) name = own at *
   have hap:List.take own.length (List.map JU.v own)++[V.agg [V.str x.sec,V.str x.name,V.str x.val,V.int x.line]] = (own++[x]).map JU.v:=by
    rw [zb (by simp),zD];rfl
   have hln:own.length + 1 = (own++[x]).length:=by simp
   (have zx:=za e1 (za hlm (za hwi (za hget hx))));refine zgo ?_;repeat' first|exact zt|apply zan|intro hc
   rw [hap,hln]
   all_goals exact hL _ (k + 1) (by omega) (by omega) (by rw [hot];exact wK [0,17002] (by rw [hm];rfl) ⟨⟨_,rfl,fun h=>h,JJ _ _ _ _ _ _ _ _ _⟩,⟨_,rfl,fun h=>h,rfl,rfl⟩,trivial⟩)
end Av
end
