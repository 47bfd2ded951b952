/- B26 -/
import Derived.Test.YtphclkkggijicaaGreatDoorB25
import Derived.Test.YtphclkkggijicaaGreatDoorB12
set_option linter.unusedVariables false
set_option linter.unusedSimpArgs false
noncomputable section
set_option maxRecDepth 10000
set_option maxHeartbeats 4000000
namespace Av
open Go
attribute [local irreducible] AWp W7 Kx jy awS awC vE awQ aay QP W6 vu awR Vn awB okR jx ris
def afi:List Int→Int→Option (List Int)
 | [],n=>some [n]
 | x :: r,n=>if x < n then (afi r n).map (x :: ·) else if x = n then none else some (n :: x :: r)
def ans (o:Option (List Int)):V:=match o with|some l=>.tup [.sl 1 (l.map V.int),V.bool true]|none=>.tup [.sl 1 [],V.bool false]
theorem aiy (o:Option (List Int)):(ans o).closed:=by cases o<;>simp only [ans,V.closed,Qa,and_self]
def ant:List Int→Int→Nat
 | [],_=>0
 | x :: r,n=>if x < n then ant r n + 1 else 0
theorem ajr:∀ (l:List Int) (n:Int),afi l n = if l[ant l n]? = some n then none else some (l.take (ant l n)++n :: l.drop (ant l n))
 | [],n=>by simp [afi,ant]
 | x :: r,n=>by
   rw [afi,ant]
   by_cases h:x < n
   ·rw [if_pos h,if_pos h,ajr r n,List.getElem?_cons_succ]
    split<;>simp
   ·rw [if_neg h,if_neg h,List.getElem?_cons_zero]
    by_cases h2:x = n
    ·rw [if_pos h2,if_pos (by rw [h2])]
    ·rw [if_neg h2,if_neg (by simpa using h2)];rfl
def yc:=qd Proofs.Tryz.f196 [zhn 14]
def qJ (Γ:Env) (f:Nat):Prop:=∀ (l:List Int) (n:Int) (hl:l.length < 2 ^ 30),EvC Γ f [.sl 1 (l.map V.int),V.int n] (ans (afi l n))
theorem ahn {Γ:Env} {f:Nat} (h:Has Γ.P f 45 yc.1.1.ac yc.1.2) :qJ Γ f:=by
 intro l n hl
 refine Qn h zsi (aiy _) fun C hC hm=>?_
 subst hC
 simp only [yc,qd,DC.ac]
 have hal:(l.map V.int).length = l.length:=zh _
 rw [ajr]
 have hcI:∀ q:List Int,(∀ y∈q.map V.int,y.cells.length = 1) = True:=fun q=>eq_true fun y hy=>by obtain ⟨z,_,rfl⟩:=kl.1 hy;rfl
 (have zx:=hal);refine zgo ?_;repeat' first|exact zt|apply zan|intro hc
 refine Qt (ι:=Nat) (fun k=>k≤l.length∧k + ant (l.drop k) n = ant l n) (fun k=>[(6,V.int k)]) (fun k=>l.length - k) 0 (by omega) ⟨zw _,by simp⟩ zol zlt zet fun k hk K' hL=>?_
 obtain ⟨hk,hinv⟩:=hk
 simp only [ovT,Jn,Nat.reduceEqDiff,reduceIte]
 have hA:List.take (k - 0) (l.map V.int) = (l.take k).map V.int:=by rw [Nat.sub_zero,List.map_take]
 have hB:List.take (l.length - k) (List.drop k (l.map V.int)) = (l.drop k).map V.int:=by rw [← List.map_drop,zb (by simp)]
 have hlA:((l.take k).map V.int).length = k:=by simp;omega
 have hlB:((l.drop k).map V.int).length = l.length - k:=by simp
 have hC:List.take k ((l.take k).map V.int) = (l.take k).map V.int:=zb (by rw [hlA];exact zi _)
 have hD:List.take (k + 1) ((l.take k).map V.int++[V.int n]) = (l.take k).map V.int++[V.int n]:=zb (by rw [zF,hlA];exact zi _)
 have hE:(l.take k).map V.int++[V.int n]++(l.drop k).map V.int = (l.take k++n :: l.drop k).map V.int:=by simp
 have hF:k + 1 + (l.length - k) = (l.take k++n :: l.drop k).length:=by simp;omega
 rcases hdr:l.drop k with _|⟨y,r⟩
 ·have hkl:=Qj hdr
  have e1:decide ((k:Int) < (l.length:Int)) = false:=by simp;omega
  rw [hdr,ant,Nat.add_zero] at hinv
  rw [← hinv,if_neg (by rw [kY hkl];simp),ans]
  have hkk:k = l.length:=by omega
  (have zx:=za e1 (za hal (za hA (za hB (za hlA (za hlB (za hcI (za hC (za hD (za hE hF))))))))));refine zgo ?_;repeat' first|exact zt|apply zan|intro hc
  all_goals first|exact zr|(refine Qf _ rfl ?_;exact ⟨qS (n:=38000) rfl (by simp),rfl,trivial⟩)
 ·obtain ⟨hk',hget,hr⟩:=Qe hdr
  have hw:=Qd (k:=k) (by omega)
  have e1:decide ((k:Int) < (l.length:Int)) = true:=by simp;omega
  rw [hdr,ant] at hinv
  by_cases h1:y < n
  ·have e2:decide (y < n) = true:=zu h1
   rw [if_pos h1,← hr] at hinv
   (have zx:=za e1 (za e2 (za hal (za hw hget))));refine zgo ?_;repeat' first|exact zt|apply zan|intro hc
   all_goals exact hL _ (k + 1) zet ⟨by omega,by omega⟩ (by omega) zoe
  ·have e2:decide (y < n) = false:=zv h1
   rw [if_neg h1,Nat.add_zero] at hinv
   rw [← hinv,hget]
   by_cases h2:y = n
   ·have e3:(y == n) = true:=by simpa using h2
    rw [if_pos (by rw [h2]),ans]
    (have zx:=za e1 (za e2 (za e3 (za hal (za hw hget)))));exact zg
   ·have e3:(y == n) = false:=by simpa using h2
    rw [if_neg (by simpa using h2),ans]
    (have zx:=za e1 (za e2 (za e3 (za hal (za hw (za hget (za hA (za hB (za hlA (za hlB (za hcI (za hC (za hD (za hE hF))))))))))))));refine zgo ?_;repeat' first|exact zt|apply zan|intro hc
    all_goals first|exact zr|(refine Qf _ rfl ?_;exact ⟨qS (n:=38000) rfl (by simp),rfl,trivial⟩)
def enV (e:QM) (i a h:V):List V:=[V.str e.name,V.int e.least,V.int e.most,.sl 1 (e.suites.map V.int),V.bool e.own,i,a,h,V.bool e.fall]
theorem ab9 {o:Nat→Option Ob} {br:List Nat} {B:Option (List Nat)} {e:QM} {i a h i' a' h':V} (hi:conv o br B i i') (ha:conv o br B a a') (hh:conv o br B h h'):QE o br B (enV e i a h) (enV e i' a' h'):=by
 simp only [enV,QE];simp [conv,hi,ha,hh,V.int,V.str,V.bool]
@[simp] theorem XS (e:QM):Qa e.cells:=by simp [QM.cells,V.closed,Qa]
theorem PDraft.cells_closed (e:QM):Qa e.cells:=XS e
theorem Wi {o:Nat→Option Ob} {br:List Nat} {B:Option (List Nat)} (s:Nat) (l:List V):conv o br B (.sl s l) (.sl s l):=by simp [conv]
theorem aec {o:Nat→Option Ob} {br:List Nat} {B:Option (List Nat)} (s:Nat):conv o br B (.sc (.slice none 0 0)) (.sl s []):=by simp [conv]
def aoV:List (List UInt8)→List Int→Bool×List Int
 | [],acc=>(true,acc)
 | s :: r,acc=>if (jV s).2 = true∧(jV s).1≤2147483648 then (match afi acc (jV s).1 with|some a=>aoV r a|none=>(false,[])) else (false,acc)
def aqI (l:List (List UInt8)) (a:List Int):Bool×List Int:=if l.length > 16 then (false,a) else aoV l []
def alp:List (List UInt8)→List Int→Bool×List Int
 | [],acc=>(true,acc)
 | s :: r,acc=>if wx (J2 s 0 Q1) = true then (match afi acc (J2 s 0 Q1) with|some a=>alp r a|none=>(false,acc)) else (false,acc)
theorem afh:∀ {l:List Int} {n:Int} {a:List Int},afi l n = some a→a.length = l.length + 1
 | [],n,a,h=>by simp [afi] at h;subst h;rfl
 | x :: r,n,a,h=>by
   rw [afi] at h
   split at h
   ·obtain ⟨b,hb,rfl⟩:=ze.1 h
    simp [afh hb]
   ·split at h
    ·cases h
    ·cases h;simp
def Vd:=qd Proofs.Tryz.f158 []
def UP (Γ:Env) (f:Nat):Prop:=∀ (l:List (List UInt8)) (e:QM) (hl:l.length < 2 ^ 29),EvD Γ f [.sl 1 (l.map V.str)] e.cells (V.bool (aqI l e.anchors).1) ({ e with anchors:=(aqI l e.anchors).2 }:QM).cells
theorem abZ {Γ:Env} {f:Nat} (h:Has Γ.P f 48 Vd.1.1.ac Vd.1.2) (z0:VD Γ 160) (z1:qJ Γ 196):UP Γ f:=by
 intro l e hl
 refine Q5 h zsi (by first|exact XS _|simp only [V.closed,Qa,and_self]) zc3 zc3 fun C hC hm=>?_
 subst hC
 simp only [Vd,qd,DC.ac]
 have hlm:(l.map V.str).length = l.length:=zh _
 have hm:C.m = 1:=by simpa using hm
 simp only [QM.cells]
 by_cases h16:l.length > 16
 ·have e1:decide ((l.length:Int) > 16) = true:=by simp;omega
  rw [aqI,if_pos h16]
  (have zx:=za hlm e1);refine zgo ?_;repeat' first|exact zt|apply zan|intro hc
  all_goals (refine QG _ rfl rfl zcd ?_;simp only [go_sem];done)
 have e0:decide ((l.length:Int) > 16) = false:=by simp;omega
 rw [aqI,if_neg h16]
 generalize hG:aoV l [] = g
 (have zx:=za hlm e0);refine zgo ?_;repeat' first|exact zt|apply zan|intro hc
 refine JD (ι:=Nat×List Int) (fun q=>q.1≤l.length∧aoV (l.drop q.1) q.2 = g∧q.2.length = q.1) (fun q=>stL [(0,.ptr 0 0),(1,.sl 1 (l.map V.str)),(5,V.int q.1)] [.box true (enV e (.sl 4 (e.idents.map QO.v)) (.sl 1 (q.2.map V.int)) (.sl 1 (e.hashes.map V.int)))]) (fun q=>l.length - q.1) (0,[]) ⟨zw _,hG,rfl⟩ (xI [0] (by rw [hm];rfl) ⟨⟨_,rfl,fun h=>h,ab9 (Wi _ _) (aec _) (Wi _ _)⟩,trivial⟩) fun q hq K' hL=>?_
 obtain ⟨k,acc⟩:=q
 obtain ⟨hk,hinv,hal⟩:=hq
 simp only at hk hinv hal hL ⊢
 rcases hd:l.drop k with _|⟨s,r⟩
 ·have hkl:=Qj hd
  have e1:decide ((k:Int) < ((l.length:Nat):Int)) = false:=by simp;omega
  rw [hd,aoV] at hinv
  subst hinv
  simp only [stL,enV]
  (have zx:=za e1 hlm);refine zgo ?_;repeat' first|exact zt|apply zan|intro hc
  all_goals (refine Yp _ rfl rfl (ab9 (Wi _ _) (Wi _ _) (Wi _ _)) rfl;done)
 ·obtain ⟨hk',hget,hr⟩:=Qe hd
  have hw:=Qd (k:=k) (by omega)
  have e1:decide ((k:Int) < ((l.length:Nat):Int)) = true:=by simp;omega
  rw [hd,aoV] at hinv
  have hn:=(z0 s).b
  simp only [amf] at hn
  generalize jV s = nu at *
  obtain ⟨n,b⟩:=nu
  simp only at hn hinv
  rcases b with _|_
  ·rw [if_neg (fun h=>by simp at h)] at hinv
   subst hinv
   simp only [stL,enV]
   (have zx:=za e1 (za hw (za hlm hget)));refine zgo ?_;repeat' first|exact zt|apply zan|intro hc
   all_goals (refine Yp _ rfl rfl (ab9 (Wi _ _) (Wi _ _) (Wi _ _)) rfl;done)
  by_cases hmx:n≤2147483648
  ·have e2:decide (n > 2147483648) = false:=by simp;omega
   have hp:=(z1 acc n (by omega)).b
   rw [if_pos ⟨rfl,hmx⟩] at hinv
   rcases hpu:afi acc n with _|a
   ·rw [hpu] at hinv hp
    subst hinv
    simp only [ans] at hp
    simp only [stL,enV]
    (have zx:=za e1 (za e2 (za hw (za hlm hget))));refine zgo ?_;repeat' first|exact zt|apply zan|intro hc
    all_goals (refine Yp _ rfl rfl (ab9 (Wi _ _) (Wi _ _) (Wi _ _)) rfl;done)
   ·rw [hpu] at hinv hp
    have hpl:=afh hpu
    simp only [ans] at hp
    simp only [stL,enV]
    (have zx:=za e1 (za e2 (za hw (za hlm hget))));refine zgo ?_;repeat' first|exact zt|apply zan|intro hc
    all_goals exact hL _ (k + 1,a) ⟨by simp only;omega,by rw [hr];exact hinv,by simp only;omega⟩ (by simp only;omega) (xI [0] (by rw [hm];rfl) ⟨⟨_,rfl,fun h=>h,ab9 (Wi _ _) (Wi _ _) (Wi _ _)⟩,trivial⟩)
  ·have e2:decide (n > 2147483648) = true:=by simp;omega
   rw [if_neg (fun h=>hmx h.2)] at hinv
   subst hinv
   simp only [stL,enV]
   (have zx:=za e1 (za e2 (za hw (za hlm hget))));refine zgo ?_;repeat' first|exact zt|apply zan|intro hc
   all_goals (refine Yp _ rfl rfl (ab9 (Wi _ _) (Wi _ _) (Wi _ _)) rfl;done)
def Uh:=qd Proofs.Tryz.f159 []
def KH (Γ:Env) (f:Nat):Prop:=∀ (l:List (List UInt8)) (e:QM) (hl:l.length < 2 ^ 29),EvD Γ f [.sl 1 (l.map V.str)] e.cells (V.bool (alp l []).1) ({ e with hashes:=(alp l []).2 }:QM).cells
theorem acZ {Γ:Env} {f:Nat} (h:Has Γ.P f 41 Uh.1.1.ac Uh.1.2) (z0:VF Γ 197) (z1:VE Γ 61) (z2:qJ Γ 196):KH Γ f:=by
 intro l e hl
 refine Q5 h zsi (by first|exact XS _|simp only [V.closed,Qa,and_self]) zc3 zc3 fun C hC hm=>?_
 subst hC
 simp only [Uh,qd,DC.ac]
 have hlm:(l.map V.str).length = l.length:=zh _
 have hm:C.m = 1:=by simpa using hm
 simp only [QM.cells]
 generalize hG:alp l [] = g
 (have zx:=hlm);refine zgo ?_;repeat' first|exact zt|apply zan|intro hc
 refine JD (ι:=Nat×List Int) (fun q=>q.1≤l.length∧alp (l.drop q.1) q.2 = g∧q.2.length = q.1) (fun q=>stL [(0,.ptr 0 0),(1,.sl 1 (l.map V.str)),(5,V.int q.1)] [.box true (enV e (.sl 4 (e.idents.map QO.v)) (.sl 1 (e.anchors.map V.int)) (.sl 1 (q.2.map V.int)))]) (fun q=>l.length - q.1) (0,[]) ⟨zw _,hG,rfl⟩ (xI [0] (by rw [hm];rfl) ⟨⟨_,rfl,fun h=>h,ab9 (Wi _ _) (Wi _ _) (aec _)⟩,trivial⟩) fun q hq K' hL=>?_
 obtain ⟨k,acc⟩:=q
 obtain ⟨hk,hinv,hal⟩:=hq
 simp only at hk hinv hal hL ⊢
 rcases hd:l.drop k with _|⟨s,r⟩
 ·have hkl:=Qj hd
  have e1:decide ((k:Int) < ((l.length:Nat):Int)) = false:=by simp;omega
  rw [hd,alp] at hinv
  subst hinv
  simp only [stL,enV]
  (have zx:=za e1 hlm);refine zgo ?_;repeat' first|exact zt|apply zan|intro hc
  all_goals (refine Yp _ rfl rfl (ab9 (Wi _ _) (Wi _ _) (Wi _ _)) rfl;done)
 ·obtain ⟨hk',hget,hr⟩:=Qe hd
  have hw:=Qd (k:=k) (by omega)
  have e1:decide ((k:Int) < ((l.length:Nat):Int)) = true:=by simp;omega
  rw [hd,alp] at hinv
  have hf:=(z0 s).b
  generalize J2 s 0 Q1 = n at *
  have hkd:=(z1 n).b
  by_cases hh:wx n = true
  ·have e2:((Yu n).kind != 1) = false:=by simpa [wx] using hh
   have hp:=(z2 acc n (by omega)).b
   rw [if_pos hh] at hinv
   rcases hpu:afi acc n with _|a
   ·rw [hpu] at hinv hp
    subst hinv
    simp only [ans] at hp
    simp only [stL,enV]
    (have zx:=za e1 (za e2 (za hw (za hlm hget))));refine zgo ?_;repeat' first|exact zt|apply zan|intro hc
    all_goals (refine Yp _ rfl rfl (ab9 (Wi _ _) (Wi _ _) (Wi _ _)) rfl;done)
   ·rw [hpu] at hinv hp
    have hpl:=afh hpu
    simp only [ans] at hp
    simp only [stL,enV]
    (have zx:=za e1 (za e2 (za hw (za hlm hget))));refine zgo ?_;repeat' first|exact zt|apply zan|intro hc
    all_goals exact hL _ (k + 1,a) ⟨by simp only;omega,by rw [hr];exact hinv,by simp only;omega⟩ (by simp only;omega) (xI [0] (by rw [hm];rfl) ⟨⟨_,rfl,fun h=>h,ab9 (Wi _ _) (Wi _ _) (Wi _ _)⟩,trivial⟩)
  ·have e2:((Yu n).kind != 1) = true:=by simpa [wx] using hh
   rw [if_neg hh] at hinv
   subst hinv
   simp only [stL,enV]
   (have zx:=za e1 (za e2 (za hw (za hlm hget))));refine zgo ?_;repeat' first|exact zt|apply zan|intro hc
   all_goals (refine Yp _ rfl rfl (ab9 (Wi _ _) (Wi _ _) (Wi _ _)) rfl;done)
def aiM (st:List Qv) (l:List (List UInt8)) (i:List QO):Bool×List QO:=if l.length > 4 then (false,i) else ww st l []
def qh:=qd Proofs.Tryz.f157 [⟨fun _=>false,[4,6,8,10],.one 0 (.one 1 (.one 2 (.one 3 (.one 5 (.one 7 (.one 9 (.or 4 (.or 6 (.or 8 (.one 10 (.one 11 (.one 12 (.one 13 (.one 14 (.one 15 (.one 16 (.done)))))))) (.or 10 (.one 8 (.one 11 (.one 12 (.one 13 (.one 14 (.one 15 (.one 16 (.done)))))))) (.done))) (.or 8 (.or 6 (.one 10 (.one 11 (.one 12 (.one 13 (.one 14 (.one 15 (.one 16 (.done)))))))) (.or 10 (.one 6 (.one 11 (.one 12 (.one 13 (.one 14 (.one 15 (.one 16 (.done)))))))) (.done))) (.or 10 (.or 6 (.one 8 (.one 11 (.one 12 (.one 13 (.one 14 (.one 15 (.one 16 (.done)))))))) (.or 8 (.one 6 (.one 11 (.one 12 (.one 13 (.one 14 (.one 15 (.one 16 (.done)))))))) (.done))) (.done)))) (.or 6 (.or 4 (.or 8 (.one 10 (.one 11 (.one 12 (.one 13 (.one 14 (.one 15 (.one 16 (.done)))))))) (.or 10 (.one 8 (.one 11 (.one 12 (.one 13 (.one 14 (.one 15 (.one 16 (.done)))))))) (.done))) (.or 8 (.or 4 (.one 10 (.one 11 (.one 12 (.one 13 (.one 14 (.one 15 (.one 16 (.done)))))))) (.or 10 (.one 4 (.one 11 (.one 12 (.one 13 (.one 14 (.one 15 (.one 16 (.done)))))))) (.done))) (.or 10 (.or 4 (.one 8 (.one 11 (.one 12 (.one 13 (.one 14 (.one 15 (.one 16 (.done)))))))) (.or 8 (.one 4 (.one 11 (.one 12 (.one 13 (.one 14 (.one 15 (.one 16 (.done)))))))) (.done))) (.done)))) (.or 8 (.or 4 (.or 6 (.one 10 (.one 11 (.one 12 (.one 13 (.one 14 (.one 15 (.one 16 (.done)))))))) (.or 10 (.one 6 (.one 11 (.one 12 (.one 13 (.one 14 (.one 15 (.one 16 (.done)))))))) (.done))) (.or 6 (.or 4 (.one 10 (.one 11 (.one 12 (.one 13 (.one 14 (.one 15 (.one 16 (.done)))))))) (.or 10 (.one 4 (.one 11 (.one 12 (.one 13 (.one 14 (.one 15 (.one 16 (.done)))))))) (.done))) (.or 10 (.or 4 (.one 6 (.one 11 (.one 12 (.one 13 (.one 14 (.one 15 (.one 16 (.done)))))))) (.or 6 (.one 4 (.one 11 (.one 12 (.one 13 (.one 14 (.one 15 (.one 16 (.done)))))))) (.done))) (.done)))) (.or 10 (.or 4 (.or 6 (.one 8 (.one 11 (.one 12 (.one 13 (.one 14 (.one 15 (.one 16 (.done)))))))) (.or 8 (.one 6 (.one 11 (.one 12 (.one 13 (.one 14 (.one 15 (.one 16 (.done)))))))) (.done))) (.or 6 (.or 4 (.one 8 (.one 11 (.one 12 (.one 13 (.one 14 (.one 15 (.one 16 (.done)))))))) (.or 8 (.one 4 (.one 11 (.one 12 (.one 13 (.one 14 (.one 15 (.one 16 (.done)))))))) (.done))) (.or 8 (.or 4 (.one 6 (.one 11 (.one 12 (.one 13 (.one 14 (.one 15 (.one 16 (.done)))))))) (.or 6 (.one 4 (.one 11 (.one 12 (.one 13 (.one 14 (.one 15 (.one 16 (.done)))))))) (.done))) (.done)))) (.done)))))))))))⟩]
def yC (Γ:Env) (f:Nat):Prop:=∀ (l:List (List UInt8)) (e:QM) (st:List Qv) (hl:l.length < 2 ^ 28) (hk:st.length < 2 ^ 60) (hs:∀ x∈st,x.Sm),EvD Γ f [.sl 1 (l.map V.str),.sl 6 (st.map Qv.v)] e.cells (V.bool (aiM st l e.idents).1) ({ e with idents:=(aiM st l e.idents).2 }:QM).cells
attribute [local go_sem] enV Yo in
theorem afy {Γ:Env} {f:Nat} (h:Has Γ.P f 49 qh.1.1.ac qh.1.2) (z0:yH Γ 195):yC Γ f:=by
 intro l e st hl hk hs
 refine Q5 h zsi (by first|exact XS _|simp only [V.closed,Qa,and_self]) zc3 zc3 fun C hC hm=>?_
 subst hC
 simp only [qh,qd,DC.ac]
 have hlm:(l.map V.str).length = l.length:=zh _
 simp only [QM.cells]
 by_cases h4:l.length > 4
 ·have e1:decide ((l.length:Int) > 4) = true:=by simp;omega
  rw [aiM,if_pos h4]
  (have zx:=za hlm e1);refine zgo ?_;repeat' first|exact zt|apply zan|intro hc
  all_goals (refine QG _ rfl rfl zcd ?_;simp only [go_sem];done)
 have e0:decide ((l.length:Int) > 4) = false:=by simp;omega
 rw [aiM,if_neg h4]
 generalize hG:ww st l [] = G
 have hcv:∀ (o:Nat→Option Ob) (n m:Nat) (acc:List QO),m = acc.length→o n = some (.buf true 4 (acc.map QO.v))→n ∉ [0]→QE o [0] none (enV e (.hd n 0 m) (.sl 1 (e.anchors.map V.int)) (.sl 1 (e.hashes.map V.int))) (enV e (.sl 4 (acc.map QO.v)) (.sl 1 (e.anchors.map V.int)) (.sl 1 (e.hashes.map V.int))):=fun o n m acc hm h hn=>ab9 (by subst hm;exact qS h hn) (Wi _ _) (Wi _ _)
 simp only [enV] at hcv
 (have zx:=za hlm e0);refine zgo ?_;repeat' first|exact zt|apply zan|intro hc
 refine UE 0 5 4 rfl rfl ?_
 refine Qz (ι:=Nat×List QO) (fun q=>q.1≤l.length∧ww st (l.drop q.1) q.2 = G∧q.2.length = q.1) (fun q=>Yo [(0,.ptr 0 0),(1,.sl 1 (l.map V.str)),(2,.sl 6 (st.map Qv.v)),(7,V.int q.1)] [(0,.box true (enV e (.hd 1 0 q.2.length) (.sl 1 (e.anchors.map V.int)) (.sl 1 (e.hashes.map V.int)))),(1,.buf true 4 (q.2.map QO.v))] 2) (fun q=>l.length - q.1) (0,[]) ⟨zw _,hG,rfl⟩ (Qp [(1,9001)]) (JS [(1,9001)] (by simp only [go_sem,zwl,enV]<;>exact zcc) (by simp only [go_sem,zwl,enV]<;>exact zcc) (by simp [Qp]) (by simp;omega) (by omega)) fun q hq K' hL=>?_
 obtain ⟨k,acc⟩:=q
 obtain ⟨hk,hinv,hal⟩:=hq
 simp only at hk hinv hal
 rcases hd:l.drop k with _|⟨s,r⟩
 ·have hkl:=Qj hd
  have e1:decide ((k:Int) < ((l.length:Nat):Int)) = false:=by simp;omega
  rw [hd,ww] at hinv
  subst hinv
  (have zx:=za e1 hlm);refine zgo ?_;repeat' first|exact zt|apply zan|intro hc
  all_goals exact Yp _ rfl rfl (hcv _ 1 _ _ rfl rfl (by decide)) rfl
 ·obtain ⟨hk',hget,hr⟩:=Qe hd
  have hw:=Qd (k:=k) (by omega)
  have e1:decide ((k:Int) < ((l.length:Nat):Int)) = true:=by simp;omega
  rw [hd,ww] at hinv
  have hf:=(z0 st s (by omega) hs).b
  rcases hq:xB st s with _|x
  ·rw [hq] at hf hinv
   subst hinv
   simp only [abV,Qv.v,Qv.cells] at hf
   (have zx:=za e1 (za hw (za hlm hget)));refine zgo ?_;repeat' first|exact zt|apply zan|intro hc
   all_goals exact Yp _ rfl rfl (hcv _ 1 _ _ rfl rfl (by decide)) rfl
  ·rw [hq] at hf hinv
   simp only [abV,Qv.v,Qv.cells] at hf
   have hap:acc.map QO.v++[V.agg [V.int x.kalg,V.int x.kbits,V.int x.kid,.sl 15 (x.chain.map Qk.v)]] = (acc++[abx x]).map QO.v:=by rw [zG];rfl
   have hta:List.take acc.length (acc.map QO.v) = acc.map QO.v:=zb (by simp)
   have hla:acc.length + 1 = (acc++[abx x]).length:=by simp
   (have zx:=za e1 (za hw (za hlm (za hget (za hta (za hap hla))))));refine zgo ?_;repeat' first|exact zt|apply zan|intro hc
   all_goals first|exact hL _ (k + 1,acc++[abx x]) (Qp [(1,31002)]) ⟨by simp only;omega,by rw [hr];exact hinv,by simp;omega⟩ (by simp only;omega) (JS [(1,31002)] (by simp only [go_sem,zwl,enV]<;>exact zcc) (by simp only [go_sem,zwl,enV];first|exact UB _|exact ⟨trivial,UB _⟩|(repeat' (first|rfl|apply za|omega|exact fun h=>h|exact Exists.intro _ rfl))) (by simp [Qp]) (by simp;omega) (by omega))
structure PIt where
 word:List UInt8
 vals:List (List UInt8)
 line:Int
def PIt.v (x:PIt):V:=.agg [V.str x.word,.sl 1 (x.vals.map V.str),V.int x.line]
structure PIt.Sm (x:PIt):Prop where
 hl:x.vals.length < 2 ^ 28
 hs:∀ s∈x.vals,s.length < 2 ^ 30
def arU (w v:List UInt8) (e:QM):Bool×QM :=
 if w = [108,101,97,115,116]∨w = [109,111,115,116] then (if (jV v).2 = true∧1≤(jV v).1∧(jV v).1≤4 then (true,if w = [108,101,97,115,116] then { e with least:=(jV v).1 } else { e with most:=(jV v).1 }) else (false,e))
 else if w = [115,117,105,116,101,115] then ((XE v).2.2 == 0,{ e with suites:=(XE v).1 })
 else if w = [111,114,100,101,114] then (v == [111,119,110] || v == [99,108,105,101,110,116],{ e with own:=v == [111,119,110] })
 else (v == [121,101,115] || v == [110,111],{ e with fall:=v == [121,101,115] })
def WW (st:List Qv) (w:List UInt8) (l:List (List UInt8)) (e:QM):Bool×QM :=
 if w = [107,101,121,115] then ((aiM st l e.idents).1,{ e with idents:=(aiM st l e.idents).2 })
 else if w = [97,110,99,104,111,114,115] then ((aqI l e.anchors).1,{ e with anchors:=(aqI l e.anchors).2 })
 else if w = [104,97,115,104,101,115] then ((alp l []).1,{ e with hashes:=(alp l []).2 })
 else match l with
  | [v]=>arU w v e
  | _=>(false,e)
def U8:=qd Proofs.Tryz.f113 []
def jj (Γ:Env) (f:Nat):Prop:=∀ (x:PIt) (e:QM) (st:List Qv) (sm:x.Sm) (hk:st.length < 2 ^ 60) (hs:∀ x∈st,x.Sm),EvD Γ f [x.v,.sl 6 (st.map Qv.v)] e.cells (V.bool (WW st x.word x.vals e).1) (WW st x.word x.vals e).2.cells
attribute [local go_sem] List.length_nil in
theorem adV {Γ:Env} {f:Nat} (h:Has Γ.P f 111 U8.1.1.ac U8.1.2) (z0:yC Γ 157) (z1:UP Γ 158) (z2:KH Γ 159) (z3:VD Γ 160) (z4:Uw Γ 112):jj Γ f:=by
 intro x e st sm hk hs
 refine Q5 h zsi (by first|exact XS _|simp only [V.closed,Qa,and_self]) zc3 zc3 fun C hC hm=>?_
 subst hC
 simp only [U8,qd,DC.ac]
 obtain ⟨w,l,n⟩:=x
 obtain ⟨hl,hls⟩:=sm
 simp only at hl hls ⊢
 have bq:∀ t:List UInt8,w≠t→(w == t) = false:=fun t h=>by simpa using h
 by_cases w1:w = [107,101,121,115]
 ·have h1:=z0 l e st hl hk hs
  unfold WW
  rw [if_pos w1]
  subst w1
  simp only [QM.cells,PIt.v] at h1 ⊢
  refine zgo ?_;repeat' first|exact zt|apply zan|intro hc
  all_goals (refine QG _ rfl rfl zcd ?_;simp only [go_sem];done)
 have b1:=bq _ w1
 by_cases w2:w = [97,110,99,104,111,114,115]
 ·have h1:=z1 l e (by omega)
  unfold WW
  rw [if_neg w1,if_pos w2]
  subst w2
  simp only [QM.cells,PIt.v] at h1 ⊢
  refine zgo ?_;repeat' first|exact zt|apply zan|intro hc
  all_goals (refine QG _ rfl rfl zcd ?_;simp only [go_sem];done)
 have b2:=bq _ w2
 by_cases w3:w = [104,97,115,104,101,115]
 ·have h1:=z2 l e (by omega)
  unfold WW
  rw [if_neg w1,if_neg w2,if_pos w3]
  subst w3
  simp only [QM.cells,PIt.v] at h1 ⊢
  refine zgo ?_;repeat' first|exact zt|apply zan|intro hc
  all_goals (refine QG _ rfl rfl zcd ?_;simp only [go_sem];done)
 have b3:=bq _ w3
 unfold WW
 rw [if_neg w1,if_neg w2,if_neg w3]
 rcases l with _|⟨v,_|⟨t,r⟩⟩
 ·have e1:((0:Int) != 1) = true:=by decide
  simp only [QM.cells,PIt.v,zl]
  (have zx:=za b1 (za b2 (za b3 e1)));refine zgo ?_;repeat' first|exact zt|apply zan|intro hc
  all_goals (refine QG _ rfl rfl zcd ?_;simp only [go_sem];done)
 rotate_left
 ·have e1:((((v :: t :: r).map V.str).length:Int) != 1) = true:=by simp;omega
  simp only [QM.cells,PIt.v]
  (have zx:=za b1 (za b2 (za b3 e1)));refine zgo ?_;repeat' first|exact zt|apply zan|intro hc
  all_goals (refine QG _ rfl rfl zcd ?_;simp only [go_sem];done)
 simp only [zm,zl]
 have hv:=hls v (by simp)
 rw [arU]
 by_cases w4:w = [108,101,97,115,116]∨w = [109,111,115,116]
 ·have hn:=(z3 v).b
  simp only [amf] at hn
  rw [if_pos w4]
  generalize jV v = nu at *
  obtain ⟨m,ok⟩:=nu
  simp only at hn ⊢
  by_cases hok:ok = true∧1≤m∧m≤4
  ·obtain ⟨rfl,m1,m2⟩:=hok
   have e2:decide (m < 1) = false:=by simp;omega
   have e3:decide (m > 4) = false:=by simp;omega
   rw [if_pos ⟨rfl,m1,m2⟩]
   rcases w4 with rfl|rfl
   ·simp only [QM.cells,PIt.v,if_pos,zm,zl]
    (have zx:=za e2 e3);refine zgo ?_;repeat' first|exact zt|apply zan|intro hc
    all_goals (refine QG _ rfl rfl zcd ?_;simp only [go_sem];done)
   ·have hne:¬ ([109,111,115,116]:List UInt8) = [108,101,97,115,116]:=by decide
    simp only [QM.cells,PIt.v,if_neg hne,zm,zl]
    (have zx:=za e2 e3);refine zgo ?_;repeat' first|exact zt|apply zan|intro hc
    all_goals (refine QG _ rfl rfl zcd ?_;simp only [go_sem];done)
  ·rw [if_neg hok]
   rcases ok with _|_
   ·rcases w4 with rfl|rfl
    all_goals
     simp only [QM.cells,PIt.v,zm,zl]
     refine zgo ?_;repeat' first|exact zt|apply zan|intro hc
     all_goals (refine QG _ rfl rfl zcd ?_;simp only [go_sem];done)
   ·by_cases m1:m < 1
    ·have e2:decide (m < 1) = true:=zu m1
     rcases w4 with rfl|rfl
     all_goals
      simp only [QM.cells,PIt.v,zm,zl]
      (have zx:=e2);refine zgo ?_;repeat' first|exact zt|apply zan|intro hc
      all_goals (refine QG _ rfl rfl zcd ?_;simp only [go_sem];done)
    ·have e2:decide (m < 1) = false:=zv m1
     have e3:decide (m > 4) = true:=zu (by have:¬ (1≤m∧m≤4):=fun h=>hok ⟨rfl,h⟩;omega)
     rcases w4 with rfl|rfl
     all_goals
      simp only [QM.cells,PIt.v,zm,zl]
      (have zx:=za e2 e3);refine zgo ?_;repeat' first|exact zt|apply zan|intro hc
      all_goals (refine QG _ rfl rfl zcd ?_;simp only [go_sem];done)
 rw [if_neg w4]
 have b4:=bq [108,101,97,115,116] fun h=>w4 (.inl h)
 have b5:=bq [109,111,115,116] fun h=>w4 (.inr h)
 by_cases w5:w = [115,117,105,116,101,115]
 ·have hp:=(z4 v hv).b
  rw [VQ] at hp
  rw [if_pos w5]
  subst w5
  simp only [QM.cells,PIt.v,zm,zl]
  refine zgo ?_;repeat' first|exact zt|apply zan|intro hc
  all_goals (refine QG _ rfl rfl zcd ?_;simp only [go_sem];done)
 have b6:=bq _ w5
 rw [if_neg w5]
 by_cases w6:w = [111,114,100,101,114]
 ·rw [if_pos w6]
  subst w6
  simp only [QM.cells,PIt.v,zm,zl]
  rcases hq:v == [111,119,110] with _|_
  ·(have zx:=hq);refine zgo ?_;repeat' first|exact zt|apply zan|intro hc
   all_goals first|(refine QG _ rfl rfl zcd ?_;simp only [go_sem];done)|(refine QG _ rfl rfl zcd ?_;simp only [go_sem];simp [*];done)
  ·(have zx:=hq);refine zgo ?_;repeat' first|exact zt|apply zan|intro hc
   all_goals first|(refine QG _ rfl rfl zcd ?_;simp only [go_sem];done)|(refine QG _ rfl rfl zcd ?_;simp only [go_sem];simp [*];done)
 have b7:=bq _ w6
 rw [if_neg w6]
 simp only [QM.cells,PIt.v,zm,zl]
 rcases hq:v == [121,101,115] with _|_
 ·(have zx:=za b1 (za b2 (za b3 (za b4 (za b5 (za b6 (za b7 hq)))))));refine zgo ?_;repeat' first|exact zt|apply zan|intro hc
  all_goals first|(refine QG _ rfl rfl zcd ?_;simp only [go_sem];done)|(refine QG _ rfl rfl zcd ?_;simp only [go_sem];simp [*];done)
 ·(have zx:=za b1 (za b2 (za b3 (za b4 (za b5 (za b6 (za b7 hq)))))));refine zgo ?_;repeat' first|exact zt|apply zan|intro hc
  all_goals first|(refine QG _ rfl rfl zcd ?_;simp only [go_sem];done)|(refine QG _ rfl rfl zcd ?_;simp only [go_sem];simp [*];done)
theorem akF {n:Int} (h0:0≤n) (h1:n < 1000000000000000):jV (Lib.itoa n) = (n,true):=by
 have e:Lib.itoa n = Lib.decDigits n.toNat:=by rw [Lib.itoa,if_neg (by omega)]
 obtain ⟨c,r,hc,h2,h3,h4⟩:=afX (n.toNat + 1) n.toNat (by omega)
 have hn:=ajx (n.toNat + 1) n.toNat (by omega)
 have hl:(Lib.decDigits n.toNat).length≤15:=by
  have:∀ (k u:Nat),u < 10 ^ (k + 1)→(Lib.decDigits u).length≤k + 1:=by
   intro k
   induction k with
   | zero=>intro u hu;rw [Lib.decDigits,dif_pos (by omega)];simp
   | succ k ih =>
     intro u hu
     rw [Lib.decDigits]
     split
     ·simp
     ·have:=ih (u / 10) (by rw [Nat.pow_succ] at hu;omega)
      simp;omega
  have:=this 14 n.toNat (by omega)
  omega
 rw [e,jV,if_neg,hn]
 ·simp;omega
 ·rw [hc] at hl ⊢
  rintro (h|h|⟨h,h'⟩)
  ·simp at h
  ·omega
  ·simp only [List.getElem?_cons_zero,zd] at h'
   subst h'
   by_cases h0':n = 0
   ·subst h0'
    rw [Lib.decDigits,dif_pos (by omega)] at hc
    simp only [ke] at hc
    rw [← hc.2] at h;simp at h
   ·exact h4 (by omega) rfl
theorem ajU {s:List UInt8} {m:Int} (hm:m < 1000000000000000):((jV s).2 = true∧(jV s).1≤m↔abg s = true∧XI s≤m∧0≤XI s)∧((jV s).2 = true→(jV s).1 = XI s∧0≤XI s):=by
 have h2:(jV s).2 = true→(jV s).1 = XI s∧0≤XI s∧abg s = true:=fun h=>by
  obtain ⟨h1,h0,hx⟩:=amr (r:=s) (n:=(jV s).1) (by rw [← h])
  have e1:=abG h0 (by omega:(jV s).1 < 1000000000000000000)
  have e2:=alf h0 (by omega:(jV s).1 < 1000000000000000000)
  rw [h1] at e1 e2
  refine ⟨e2.symm,by omega,?_⟩
  rw [abg,e1]
  simp only [e2,h1,beq_self_eq_true,zT]
  exact zu h0
 refine ⟨⟨fun ⟨h,hl⟩=>by obtain ⟨a,b,c⟩:=h2 h;exact ⟨c,by omega,b⟩,fun ⟨h,hl,h0⟩=>?_⟩,fun h=>⟨(h2 h).1,(h2 h).2.1⟩⟩
 have hi:Lib.itoa (XI s) = s:=by
  rw [abg] at h
  split at h
  ·simp only [zA,kC] at h;exact h.2
  ·cases h
 have:=akF h0 (by omega:XI s < 1000000000000000)
 rw [hi] at this
 rw [this]
 exact ⟨rfl,hl⟩
theorem ajs:∀ {l:List Int} {n:Int},l.Pairwise (· < ·)→(n∈l→afi l n = none)∧(n ∉ l→∃ m,afi l n = some m∧m.Perm (n :: l)∧m.Pairwise (· < ·))
 | [],n,_=>⟨fun h=>by simp at h,fun _=>⟨[n],rfl,List.Perm.refl _,by simp⟩⟩
 | x :: r,n,h=>by
   have hr:=Zh.1 h
   obtain ⟨i1,i2⟩:=ajs (l:=r) (n:=n) hr.2
   by_cases hx:x < n
   ·refine ⟨fun hm=>?_,fun hm=>?_⟩
    ·rcases zp.1 hm with rfl|hm
     ·omega
     ·rw [afi,if_pos hx,i1 hm];rfl
    ·obtain ⟨m,h1,h2,h3⟩:=i2 fun h=>hm (kx _ h)
     refine ⟨x :: m,by rw [afi,if_pos hx,h1];rfl,(h2.cons x).trans (List.Perm.swap _ _ _),Zh.2 ⟨fun y hy=>?_,h3⟩⟩
     rcases zp.1 (h2.mem_iff.1 hy) with rfl|hy
     ·exact hx
     ·exact hr.1 y hy
   ·by_cases he:x = n
    ·subst he
     exact ⟨fun _=>by rw [afi,if_neg hx,if_pos rfl],fun hm=>absurd (by simp) hm⟩
    ·refine ⟨fun hm=>?_,fun hm=>⟨n :: x :: r,by rw [afi,if_neg hx,if_neg he],List.Perm.refl _,Zh.2 ⟨fun y hy=>?_,h⟩⟩⟩
     ·rcases zp.1 hm with rfl|hm
      ·exact absurd rfl he
      ·have:=hr.1 n hm;omega
     ·rcases zp.1 hy with rfl|hy
      ·omega
      ·have:=hr.1 y hy;omega
theorem agG {l:List Int} (h:l.Nodup):(jP l).Pairwise (· < ·):=by
 have ho:=ahg (lt:=fun x y:Int=>decide (x < y)) (fun x y z h h'=>by simp at *;omega) (fun x y h=>by simp at *;omega) l
 have hn:(jP l).Nodup:=(wm (lt:=fun x y:Int=>decide (x < y)) (l:=l)).nodup_iff.2 h
 exact (ho.and hn).imp fun {a b} h=>by
  have h1:decide (b < a) = false:=h.1
  have h2:a≠b:=h.2
  simp at h1;omega
theorem agF {l:List Int} {n:Int} (h:l.Nodup):afi (jP l) n = if n∈l then none else some (jP (l++[n])):=by
 obtain ⟨h1,h2⟩:=ajs (n:=n) (agG h)
 have hm:n∈jP l↔n∈l:=amG
 by_cases hn:n∈l
 ·rw [if_pos hn,h1 (hm.2 hn)]
 ·obtain ⟨m,e1,e2,e3⟩:=h2 fun h=>hn (hm.1 h)
  have hnd:(l++[n]).Nodup:=kp.2 ⟨h,by simp,fun a ha b hb e=>by simp at hb;subst hb;subst e;exact hn ha⟩
  rw [if_neg hn,e1]
  congr 1
  have p1:m.Perm (jP (l++[n])):=e2.trans (((wm (lt:=fun x y:Int=>decide (x < y)) (l:=l)).cons n).trans ((List.perm_append_comm (l₁:=[n]) (l₂:=l)).trans wm.symm))
  exact p1.eq_of_pairwise (le:=(· < ·)) (fun a b _ _ h3 h4=>by omega) e3 (agG hnd)
theorem aeJ {of:List UInt8→Int×Bool}:∀ {l:List (List UInt8)} {acc:List Int},acc.Nodup→(vC of l acc).2.Nodup
 | [],acc,h=>h
 | s :: r,acc,h=>by
   rw [vC]
   split
   ·rename_i hc
    exact aeJ (kp.2 ⟨h,by simp,fun a ha b hb e=>by simp at hb;subst hb;subst e;exact hc.2 ha⟩)
   ·exact h
theorem aoU (s:List UInt8):((jV s).2 = true∧(jV s).1≤2147483648↔(af9 s).2 = true)∧((jV s).2 = true→(jV s).1 = (af9 s).1):=by
 obtain ⟨h1,h2⟩:=ajU (s:=s) (m:=2147483648) (by omega)
 refine ⟨h1.trans ?_,fun h=>(h2 h).1⟩
 simp only [af9,adE,zA,zS]
 constructor
 ·rintro ⟨a,b,c⟩;exact ⟨a,c,b⟩
 ·rintro ⟨a,b,c⟩;exact ⟨a,c,b⟩
theorem anm:∀ (l:List (List UInt8)) (acc:List Int),acc.Nodup→(aoV l (jP acc)).1 = (vC af9 l acc).1∧((vC af9 l acc).1 = true→(aoV l (jP acc)).2 = jP (vC af9 l acc).2)
 | [],acc,_=>⟨rfl,fun _=>rfl⟩
 | s :: r,acc,hn=>by
   obtain ⟨c1,c2⟩:=aoU s
   rw [aoV,vC]
   by_cases h:(jV s).2 = true∧(jV s).1≤2147483648
   ·have hv:=c2 h.1
    have hb:=c1.1 h
    rw [if_pos h,agF hn,hv]
    by_cases hm:(af9 s).1∈acc
    ·rw [if_pos hm,if_neg (fun h=>h.2 hm)]
     exact ⟨rfl,fun h=>by simp at h⟩
    ·rw [if_neg hm,if_pos ⟨hb,hm⟩]
     exact anm r _ (kp.2 ⟨hn,by simp,fun a ha b hb e=>by simp at hb;subst hb;subst e;exact hm ha⟩)
   ·rw [if_neg h,if_neg (fun h'=>h (c1.2 h'.1))]
    exact ⟨rfl,fun h=>by simp at h⟩
theorem amD:∀ (l:List (List UInt8)) (acc:List Int),acc.Nodup→(alp l (jP acc)).1 = (vC aig l acc).1∧((vC aig l acc).1 = true→(alp l (jP acc)).2 = jP (vC aig l acc).2)
 | [],acc,_=>⟨rfl,fun _=>rfl⟩
 | s :: r,acc,hn=>by
   rw [alp,vC]
   by_cases h:wx (J2 s 0 Q1) = true
   ·rw [if_pos h,agF hn]
    by_cases hm:J2 s 0 Q1∈acc
    ·rw [if_pos hm,if_neg (fun h=>h.2 hm)]
     exact ⟨rfl,fun h=>by simp at h⟩
    ·rw [if_neg hm,if_pos ⟨h,hm⟩]
     exact amD r _ (kp.2 ⟨hn,by simp,fun a ha b hb e=>by simp at hb;subst hb;subst e;exact hm ha⟩)
   ·rw [if_neg h,if_neg (fun h'=>h h'.1)]
    exact ⟨rfl,fun h=>by simp at h⟩
theorem agY:∀ {l m:List Int},l.Nodup→(∀ x∈l,x∈m)→l.length≤m.length
 | [],m,_,_=>zw _
 | x :: r,m,h,hm=>by
   have hc:=Zs.1 h
   have hx:=hm x (by simp)
   have:=agY (l:=r) (m:=m.erase x) hc.2 fun y hy=>(List.mem_erase_of_ne (fun (e:y = x)=>hc.1 (e ▸ hy))).2 (hm y (kx _ hy))
   rw [List.length_erase_of_mem hx] at this
   have:=List.length_pos_of_mem hx
   simp only [List.length_cons];omega
theorem ajy {of:List UInt8→Int×Bool}:∀ {l:List (List UInt8)} {acc:List Int},(vC of l acc).1 = true→(vC of l acc).2.length = acc.length + l.length
 | [],acc,h=>rfl
 | s :: r,acc,h=>by
   rw [vC] at h ⊢
   split at h
   ·rename_i hc;rw [if_pos hc,ajy h];simp;omega
   ·cases h
theorem ajz {of:List UInt8→Int×Bool} {p:Int→Prop} (hp:∀ s,(of s).2 = true→p (of s).1):∀ {l:List (List UInt8)} {acc:List Int},(∀ n∈acc,p n)→∀ n∈(vC of l acc).2,p n
 | [],acc,h=>h
 | s :: r,acc,h=>by
   rw [vC]
   split
   ·rename_i hc
    exact ajz hp fun n hn=>by
     rcases zX.1 hn with hn|hn
     ·exact h n hn
     ·rw [zO.1 hn];exact hp s hc.1
   ·exact h
theorem aog {n:Int} (h:wx n = true):n∈([1,2,3,4]:List Int):=by
 by_cases hr:1≤n∧n≤22
 ·have key:∀ k:Nat,k < 23→wx (k:Int) = true→(k:Int)∈([1,2,3,4]:List Int):=by decide +kernel
  have:=key n.toNat (by omega)
  rw [show ((n.toNat:Nat):Int) = n by omega] at this
  exact this h
 ·rw [wx,Yu,if_neg hr] at h;cases h
theorem ap6 {l:List (List UInt8)} (h:(vC aig l []).1 = true):l.length≤4:=by
 have h1:=ajy h
 have h2:=agY (m:=[1,2,3,4]) (aeJ (of:=aig) (l:=l) (acc:=[]) zV) (ajz (p:=fun n=>n∈([1,2,3,4]:List Int)) (fun s hs=>aog hs) (fun n hn=>by simp at hn))
 simp at h1 h2;omega
def YO (st:List Qv) (w:List UInt8) (l:List (List UInt8)) (e:QM):Bool×QM :=
 if w = [108,101,97,115,116] then (agx l,{ e with least:=aji e.least l })
 else if w = [109,111,115,116] then (agx l,{ e with most:=aji e.most l })
 else if w = [115,117,105,116,101,115] then (lsB l,{ e with suites:=lsL e.suites l })
 else if w = [111,114,100,101,114] then (ch2 [111,119,110] [99,108,105,101,110,116] l,{ e with own:=chL [111,119,110] l })
 else if w = [107,101,121,115] then ((abR st l).1,{ e with idents:=(abR st l).2 })
 else if w = [97,110,99,104,111,114,115] then ((vD af9 16 l).1,{ e with anchors:=(vD af9 16 l).2 })
 else if w = [104,97,115,104,101,115] then ((vD aig 22 l).1,{ e with hashes:=(vD aig 22 l).2 })
 else (ch2 [121,101,115] [110,111] l,{ e with fall:=chL [121,101,115] l })
theorem aqX (v:List UInt8):((jV v).2 = true∧1≤(jV v).1∧(jV v).1≤4↔anv v = true)∧((jV v).2 = true→(jV v).1 = XI v):=by
 obtain ⟨h1,h2⟩:=ajU (s:=v) (m:=4) (by omega)
 refine ⟨?_,fun h=>(h2 h).1⟩
 simp only [anv,zA,zS]
 constructor
 ·rintro ⟨a,b,c⟩
  have:=h1.1 ⟨a,c⟩
  have:=h2 a
  exact ⟨by simp [*],by omega,by omega⟩
 ·rintro ⟨a,b,c⟩
  have h3:=h1.2 ⟨a,c,by omega⟩
  have:=h2 h3.1
  exact ⟨h3.1,by omega,h3.2⟩
theorem aoQ {st:List Qv} {w:List UInt8} {l:List (List UInt8)} {e:QM} (hw:w∈Ym):(WW st w l e).1 = (YO st w l e).1∧((YO st w l e).1 = true→(WW st w l e).2 = (YO st w l e).2):=by
 have hver:∀ v,w = [108,101,97,115,116]∨w = [109,111,115,116]→arU w v e = if anv v = true then (true,if w = [108,101,97,115,116] then { e with least:=XI v } else { e with most:=XI v }) else (false,e):=fun v hw=>by
  obtain ⟨h1,h2⟩:=aqX v
  rw [arU,if_pos hw]
  by_cases h:anv v = true
  ·have h3:=h1.2 h
   rw [if_pos h,if_pos h3,h2 h3.1]
  ·rw [if_neg h,if_neg (fun h'=>h (h1.1 h'))]
 simp only [Ym,zp,zy,or_false] at hw
 rcases hw with rfl|rfl|rfl|rfl|rfl|rfl|rfl|rfl
 ·unfold WW YO
  rw [if_neg (by decide),if_neg (by decide),if_neg (by decide),if_pos rfl]
  rcases l with _|⟨v,_|⟨t,r⟩⟩
  ·exact ⟨rfl,fun h=>by simp [agx] at h⟩
  ·simp only [hver v (.inl rfl),agx,aji]
   by_cases h:anv v = true
   ·rw [if_pos h];exact ⟨h.symm,fun _=>rfl⟩
   ·rw [if_neg h];exact ⟨by simp [h],fun h'=>absurd h' h⟩
  ·exact ⟨rfl,fun h=>by simp [agx] at h⟩
 ·unfold WW YO
  rw [if_neg (by decide),if_neg (by decide),if_neg (by decide),if_neg (by decide),if_pos rfl]
  rcases l with _|⟨v,_|⟨t,r⟩⟩
  ·exact ⟨rfl,fun h=>by simp [agx] at h⟩
  ·simp only [hver v (.inr rfl),agx,aji]
   by_cases h:anv v = true
   ·rw [if_pos h];exact ⟨h.symm,fun _=>rfl⟩
   ·rw [if_neg h];exact ⟨by simp [h],fun h'=>absurd h' h⟩
  ·exact ⟨rfl,fun h=>by simp [agx] at h⟩
 ·unfold WW YO
  rw [if_neg (by decide),if_neg (by decide),if_neg (by decide),if_neg (by decide),if_neg (by decide),if_pos rfl]
  rcases l with _|⟨v,_|⟨t,r⟩⟩
  ·exact ⟨rfl,fun h=>by simp [lsB] at h⟩
  ·exact ⟨rfl,fun _=>rfl⟩
  ·exact ⟨rfl,fun h=>by simp [lsB] at h⟩
 ·unfold WW YO
  rw [if_neg (by decide),if_neg (by decide),if_neg (by decide),if_neg (by decide),if_neg (by decide),if_neg (by decide),if_pos rfl]
  rcases l with _|⟨v,_|⟨t,r⟩⟩
  ·exact ⟨rfl,fun h=>by simp [ch2] at h⟩
  ·exact ⟨rfl,fun _=>rfl⟩
  ·exact ⟨rfl,fun h=>by simp [ch2] at h⟩
 ·unfold WW YO
  rw [if_pos rfl,if_neg (by decide),if_neg (by decide),if_neg (by decide),if_neg (by decide),if_pos rfl,aiM,abR]
  by_cases h4:l.length > 4
  ·rw [if_pos h4,zv (by omega),zI];exact ⟨rfl,fun h=>by simp at h⟩
  ·rw [if_neg h4,zu (by omega),zT];exact ⟨rfl,fun _=>rfl⟩
 ·unfold WW YO
  rw [if_neg (by decide),if_pos rfl,if_neg (by decide),if_neg (by decide),if_neg (by decide),if_neg (by decide),if_neg (by decide),if_pos rfl,aqI]
  obtain ⟨g1,g2⟩:=anm l [] zV
  rw [show jP [] = [] from rfl] at g1 g2
  by_cases h16:l.length > 16
  ·rw [if_pos h16]
   have hf:(vD af9 16 l).1 = false:=by
    rw [vD];split
    ·exact zv (by omega)
    ·rfl
   simp only [hf]
   exact ⟨trivial,fun h=>by simp at h⟩
  ·rw [if_neg h16]
   by_cases h:(vC af9 l []).1 = true
   ·have hv:vD af9 16 l = (true,jP (vC af9 l []).2):=by rw [vD,if_pos h,zu (by omega)]
    simp only [hv,g1,h,g2 h]
    exact ⟨trivial,fun _=>trivial⟩
   ·have hf:(vD af9 16 l).1 = false:=by rw [vD,if_neg h]
    simp only [hf,g1]
    exact ⟨by simpa using h,fun h=>by simp at h⟩
 ·unfold WW YO
  rw [if_neg (by decide),if_neg (by decide),if_pos rfl,if_neg (by decide),if_neg (by decide),if_neg (by decide),if_neg (by decide),if_neg (by decide),if_neg (by decide),if_pos rfl]
  obtain ⟨g1,g2⟩:=amD l [] zV
  rw [show jP [] = [] from rfl] at g1 g2
  by_cases h:(vC aig l []).1 = true
  ·have h4:=ap6 h
   have hv:vD aig 22 l = (true,jP (vC aig l []).2):=by rw [vD,if_pos h,zu (by omega)]
   simp only [hv,g1,h,g2 h]
   exact ⟨trivial,fun _=>trivial⟩
  ·have hf:(vD aig 22 l).1 = false:=by rw [vD,if_neg h]
   simp only [hf,g1]
   exact ⟨by simpa using h,fun h=>by simp at h⟩
 ·unfold WW YO
  rw [if_neg (by decide),if_neg (by decide),if_neg (by decide),if_neg (by decide),if_neg (by decide),if_neg (by decide),if_neg (by decide),if_neg (by decide),if_neg (by decide),if_neg (by decide)]
  rcases l with _|⟨v,_|⟨t,r⟩⟩
  ·exact ⟨rfl,fun h=>by simp [ch2] at h⟩
  ·exact ⟨rfl,fun _=>rfl⟩
  ·exact ⟨rfl,fun h=>by simp [ch2] at h⟩
def jR (st:List Qv):List PIt→QM→Option Int×QM
 | [],e=>(none,e)
 | x :: r,e=>if (YO st x.word x.vals e).1 = true then jR st r (YO st x.word x.vals e).2 else (some x.line,e)
def ait (st:List Qv):List PIt→QM→Option Int×QM
 | [],e=>(none,e)
 | x :: r,e=>if (WW st x.word x.vals e).1 = true then ait st r (WW st x.word x.vals e).2 else (some x.line,e)
theorem ao3 {st:List Qv}:∀ {l:List PIt} {e:QM},(∀ x∈l,x.word∈Ym)→ait st l e = jR st l e
 | [],e,_=>rfl
 | x :: r,e,h=>by
   obtain ⟨h1,h2⟩:=aoQ (st:=st) (l:=x.vals) (e:=e) (h x (by simp))
   rw [ait,jR,h1]
   by_cases hb:(YO st x.word x.vals e).1 = true
   ·rw [if_pos hb,if_pos hb,h2 hb];exact ao3 fun y hy=>h y (kx _ hy)
   ·rw [if_neg hb,if_neg hb]
def adF:QM:=⟨[],0,0,[],false,[],[],[],false⟩
def agt (name:List UInt8):QM:=⟨name,1,4,[1,2,3,4,5,6,7,8,9,10,11,12,13,14,15,16],false,[],[],[],false⟩
def vn (n k:Int):V:=.tup [adF.v,V.int n,V.int k]
def wv (r:Option Int×QM):V:=match r with
 | (some n,_)=>vn n 18
 | (none,e)=>if e.least≤e.most then .tup [e.v,V.int 0,V.int 0] else vn 0 19
theorem VW (n k:Int):(vn n k).closed:=by simp only [vn,QM.v,QM.cells,V.closed,Qa,and_self]
theorem xz (r:Option Int×QM):(wv r).closed:=by
 obtain ⟨_|n,e⟩:=r
 ·simp only [wv];split
  ·simp only [QM.v,QM.cells,V.closed,Qa,and_self]
  ·exact VW _ _
 ·exact VW _ _
theorem aks:XE [97,108,108] = ([1,2,3,4,5,6,7,8,9,10,11,12,13,14,15,16],0,0):=by decide +kernel
def Va (name:List UInt8) (st:List Qv):Int:=if xn name = true then (if yU st = true then 0 else 16) else 14
def U7:=qd Proofs.Tryz.f42 []
def ji (Γ:Env) (f:Nat):Prop:=∀ (name:List UInt8) (st:List Qv) (hn:name.length < 2 ^ 30) (hk:st.length < 2 ^ 60) (hs:∀ x∈st,x.Sm),EvN Γ f [V.str name,.sl 6 (st.map Qv.v)] (V.int (Va name st))
theorem adU {Γ:Env} {f:Nat} (h:Has Γ.P f 10 U7.1.1.ac U7.1.2) (z0:yG Γ 57) (z1:jo Γ 25):ji Γ f:=by
 intro name st hn hk hs
 refine Qb h zsi zcl zcl fun C hC hm=>?_
 subst hC
 simp only [U7,qd,DC.ac]
 have hw:=(z0 name hn).b
 have hc:=(z1 st hk hs).b
 rename EvB _ _ _ _ _=>gc
 rcases hq:xn name with _|_
 ·rw [hq] at hw
  rw [Va,if_neg (by rw [hq];decide)]
  exact zg
 ·rw [hq] at hw
  rw [Va,if_pos hq]
  exact zg
def XN:List V:=[.top,.top,.top,.top,.top,.top,.top,.top,.top]
theorem Yh {o:Nat→Option Ob} {br:List Nat} {B:Option (List Nat)} (a b c d e f g h i:V):QE o br B [a,b,c,d,e,f,g,h,i] XN:=by
 simp only [XN,QE,apm,and_self]
theorem aro {o:Nat→Option Ob} {br:List Nat} {B:Option (List Nat)} (name:List UInt8):QE o br B [V.str name,V.int 1,V.int 4,.sl 1 (([1,2,3,4,5,6,7,8,9,10,11,12,13,14,15,16]:List Int).map V.int),V.bool false,.sc (.slice none 0 0),.sc (.slice none 0 0),.sc (.slice none 0 0),V.bool false] (agt name).cells:=by
 simp [agt,QM.cells,QE,conv,V.int,V.str,V.bool]
def qg:=qd Proofs.Tryz.f45 [⟨fun _=>false,[3,5],.one 0 (.one 1 (.one 2 (.or 3 (.one 4 (.or 5 (.one 6 (.one 7 (.one 8 (.done)))) (.or 6 (.one 5 (.one 7 (.one 8 (.done)))) (.done)))) (.or 6 (.one 3 (.one 4 (.one 5 (.one 7 (.one 8 (.done)))))) (.done)))))⟩]
def yB (Γ:Env) (f:Nat):Prop:=∀ (name:List UInt8) (l:List PIt) (st:List Qv) (hl:l.length < 2 ^ 60) (sm:∀ x∈l,x.Sm) (hw:∀ x∈l,x.word∈Ym) (hk:st.length < 2 ^ 60) (hs:∀ x∈st,x.Sm),EvC Γ f [V.str name,.sl 3 (l.map PIt.v),.sl 6 (st.map Qv.v)] (wv (jR st l (agt name)))
attribute [local go_sem] PIt.v in
theorem afx {Γ:Env} {f:Nat} (h:Has Γ.P f 45 qg.1.1.ac qg.1.2) (z0:Uw Γ 112) (z1:jj Γ 113):yB Γ f:=by
 intro name l st hl sm hw hk hs
 refine Qn h zsi (xz _) fun C hC hm=>?_
 subst hC
 simp only [qg,qd,DC.ac]
 have hm:C.m = 0:=by simpa using hm
 have hlm:(l.map PIt.v).length = l.length:=zh _
 rw [← ao3 hw]
 generalize hG:ait st l (agt name) = G
 have hp:=(z0 [97,108,108] (by decide)).b
 rw [VQ,aks] at hp
 refine zgo ?_;repeat' first|exact zt|apply zan|intro hc
 refine JD (ι:=Nat×QM) (fun q=>q.1≤l.length∧ait st (l.drop q.1) q.2 = G) (fun q=>stL [(1,.sl 3 (l.map PIt.v)),(2,.sl 6 (st.map Qv.v)),(6,.ptr 0 0),(9,.ptr 1 0),(10,V.int q.1)] [.box true XN,.box true q.2.cells]) (fun q=>l.length - q.1) (0,agt name) ⟨zw _,hG⟩ (xI [0,5000] (by rw [hm];rfl) ⟨⟨_,rfl,fun h=>h,Yh _ _ _ _ _ _ _ _ _⟩,⟨_,rfl,fun h=>h,aro name⟩,trivial⟩) fun q hq K' hL=>?_
 obtain ⟨k,e⟩:=q
 obtain ⟨hk1,hinv⟩:=hq
 simp only at hk1 hinv hL ⊢
 rcases hd:l.drop k with _|⟨x,r⟩
 ·have hkl:=Qj hd
  have e1:decide ((k:Int) < ((l.length:Nat):Int)) = false:=by simp;omega
  rw [hd,ait] at hinv
  subst hinv
  simp only [stL,QM.cells,XN]
  by_cases hle:e.least≤e.most
  ·have e2:decide (e.least > e.most) = false:=by simp;omega
   simp only [wv,if_pos hle,QM.v,QM.cells]
   (have zx:=za e1 (za e2 hlm));exact zg
  ·have e2:decide (e.least > e.most) = true:=by simp;omega
   simp only [wv,if_neg hle,vn,adF,QM.v,QM.cells]
   (have zx:=za e1 (za e2 hlm));exact zg
 ·obtain ⟨hk',hget,hr⟩:=Qe hd
  have hwi:=Qd (k:=k) (by omega)
  have e1:decide ((k:Int) < ((l.length:Nat):Int)) = true:=by simp;omega
  rw [hd,ait] at hinv
  have ha:=z1 x e st (sm x (zj hget)) hk hs
  have hcl:=XS (WW st x.word x.vals e).2
  generalize WW st x.word x.vals e = ap at *
  obtain ⟨b,e'⟩:=ap
  simp only [QM.cells,PIt.v] at ha
  rcases b with _|_
  ·rw [if_neg (by simp)] at hinv
   subst hinv
   simp only [stL,QM.cells,XN,wv,vn,adF,QM.v,zl]
   (have zx:=za e1 (za hwi (za hlm hget)));exact zg
  ·rw [if_pos rfl] at hinv
   simp only [stL,QM.cells,XN]
   (have zx:=za e1 (za hwi (za hlm hget)));refine zgo ?_;repeat' first|exact zt|apply zan|intro hc
   all_goals exact hL _ (k + 1,e') ⟨by simp only;omega,by rw [hr];exact hinv⟩ (by simp only;omega) (xI [0,1] (by rw [hm];rfl) ⟨⟨_,rfl,fun h=>h,Yh _ _ _ _ _ _ _ _ _⟩,⟨_,rfl,fun h=>h,Qc _ _ _ _ hcl⟩,trivial⟩)
def itS (x:WO):PIt:=⟨x.name,xq x,x.line⟩
def ag6:List WO→List PIt
 | []=>[]
 | x :: r=>if r.any (fun y=>y.name == x.name) = true then ag6 r else itS x :: ag6 r
def aic (l:List WO) (name:List UInt8):List WO:=l.filter fun x=>x.sec == name
def af6 (x:WO):Bool:=!decide (x.name∈Ym)
def akP (l:List WO) (name:List UInt8) (st:List Qv):V :=
 if Va name st≠0 then vn 0 (Va name st) else
 if aic l name = [] then vn 0 4 else
 match (aic l name).find? af6 with
 | some x=>vn x.line 17
 | none=>wv (jR st (ag6 (aic l name)) (agt name))
theorem ahj (l:List WO) (name:List UInt8) (st:List Qv):(akP l name st).closed:=by
 unfold akP
 repeat' split
 all_goals first|exact VW _ _|exact xz _
theorem alY {l:List WO} {name:List UInt8} {k:Nat} {x:WO} (h:l[k]? = some x):aic (l.take (k + 1)) name = if (x.sec == name) = true then aic (l.take k) name++[x] else aic (l.take k) name:=by
 rw [zB,h,aic,kJ]
 by_cases hx:(x.sec == name) = true
 ·rw [if_pos hx];simp [aic,hx]
 ·rw [if_neg hx];simp [aic,hx]
theorem alZ (l:List WO) (name:List UInt8):(aic l name).length≤l.length:=kq _ _
theorem ari {x:WO} (h:x.val.length < 2 ^ 27):(itS x).Sm:=by
 refine ⟨?_,?_⟩
 ·show (xq x).length < 2 ^ 28
  unfold xq
  split
  ·have:=af5 x.val [];unfold V0;omega
  ·simp
 ·intro s hs
  have hs:s∈xq x:=hs
  unfold xq at hs
  split at hs
  ·have:=aco x.val [] s hs;simp at this;omega
  ·rw [zO.1 hs];omega
theorem ag8 {o:Nat→Option Ob} {br:List Nat} {B:Option (List Nat)} {ys zs:List V} (h:VY o br B ys zs):∀ l:List PIt,VY o br B (l.map PIt.v++ys) (l.map PIt.v++zs)
 | []=>h
 | x :: r=>⟨Qc _ _ _ _ (by simp [PIt.v,V.cells,Qa,V.closed]),ag8 h r⟩
theorem acV:∀ l:List PIt,UL (l.map PIt.v)
 | []=>trivial
 | x :: r=>⟨by simp [PIt.v,V.cells,Qa,V.closed],acV r⟩
theorem ajA (r:Option Int×QM):∃ e n k,wv r = .tup [QM.v e,V.int n,V.int k]:=by
 obtain ⟨_|n,e⟩:=r
 ·simp only [wv];split
  ·exact ⟨_,_,_,rfl⟩
  ·exact ⟨_,_,_,rfl⟩
 ·exact ⟨_,_,_,rfl⟩
theorem aoE {own:List WO} (h:own.find? af6 = none):∀ x∈own,x.name∈Ym:=fun x hx=>by
 have:=List.find?_eq_none.1 h x hx
 simpa [af6] using this
theorem aoF {own:List WO} {k:Nat} {x:WO} {r:List WO} (hd:own.drop k = x :: r) (h:(own.take k).find? af6 = none):(x.name∈Ym→(own.take (k + 1)).find? af6 = none)∧(x.name ∉ Ym→own.find? af6 = some x):=by
 obtain ⟨hk,hget,hr⟩:=Qe hd
 refine ⟨fun hx=>?_,fun hx=>?_⟩
 ·rw [zB,hget,List.find?_append,h];simp [af6,hx]
 ·rw [← zR k own,hd,List.find?_append,h];simp [af6,hx]
end Av
end
