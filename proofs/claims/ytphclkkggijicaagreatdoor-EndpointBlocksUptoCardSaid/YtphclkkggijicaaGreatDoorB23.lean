/- B23 -/
import Derived.Test.YtphclkkggijicaaGreatDoorB22
import Derived.Test.YtphclkkggijicaaGreatDoorB12
set_option linter.unusedVariables false
set_option linter.unusedSimpArgs false
noncomputable section
set_option maxRecDepth 10000
set_option maxHeartbeats 4000000
namespace Av
open Go
attribute [local irreducible] AWp W7 Kx jy awS awC vE awQ aay QP W6 vu awR Vn awB okR jx ris
def eqL {α:Type} (p:α→α→Bool):List α→List α→Bool
 | [],[]=>true
 | x :: a,y :: b=>p x y && eqL p a b
 | _,_=>false
theorem abd {α:Type} {p:α→α→Bool}:∀ (a b:List α),¬ a.length = b.length→eqL p a b = false
 | [],[],h=>absurd rfl h
 | [],_ :: _,_=>rfl
 | _ :: _,[],_=>rfl
 | x :: a,y :: b,h=>by rw [eqL,abd a b (fun e=>h (by simp [e])),zI]
def eqS (x y:List UInt8):Bool:=x == y
def cs1 (c d:Qk):Bool:=(c.serial == d.serial) && ((c.issuer == d.issuer) && ((c.subject == d.subject) && eqL eqS c.names d.names))
def cs2 (c d:Qk):Bool:=((c.kalg == d.kalg) && (c.kbits == d.kbits)) && ((c.kid == d.kid) && (((c.halg == d.halg) && (c.hbits == d.hbits)) && ((c.skey == d.skey) && (c.ssum == d.ssum))))
def cs3 (c d:Qk):Bool:=(c.from_ == d.from_) && ((c.to_ == d.to_) && ((c.auth == d.auth) && (c.path == d.path)))
def adJ (c d:Qk):Bool:=cs1 c d && (cs2 c d && cs3 c d)
def vN (x y:QO):Bool:=((x.kalg == y.kalg) && (x.kbits == y.kbits)) && ((x.kid == y.kid) && eqL adJ x.chain y.chain)
def Jl:=qd Proofs.Tryz.f64 [zhn 9]
def JE (Γ:Env) (f:Nat):Prop:=∀ (a b:List (List UInt8)) (ha:a.length < 2 ^ 60),EvN Γ f [.sl 1 (a.map V.str),.sl 1 (b.map V.str)] (V.bool (eqL eqS a b))
theorem VT {Γ:Env} {f:Nat} (h:Has Γ.P f 26 Jl.1.1.ac Jl.1.2) :JE Γ f:=by
 intro a b ha
 refine Qb h zsi zcl zcl fun C hC hm=>?_
 subst hC
 simp only [Jl,qd,DC.ac]
 have lma:(a.map V.str).length = a.length:=zh _
 have lmb:(b.map V.str).length = b.length:=zh _
 by_cases hlen:a.length = b.length
 ·have e0:(((a.length:Nat):Int) != ((b.length:Nat):Int)) = false:=by simp [hlen]
  (have zx:=za lma (za lmb e0));refine zgo ?_;repeat' first|exact zt|apply zan|intro hc
  refine Qt (ι:=Nat) (fun k=>k≤a.length∧eqL eqS (a.drop k) (b.drop k) = eqL eqS a b) (fun k=>[(13,V.int k)]) (fun k=>a.length - k) 0 (by omega) ⟨zw _,rfl⟩ zol zlt zet fun k hk K' hL=>?_
  obtain ⟨hk,hinv⟩:=hk
  simp only [ovT,Jn,Nat.reduceEqDiff,reduceIte]
  rcases hd:a.drop k with _|⟨y,r⟩
  ·have:=Qj hd
   have hd2:b.drop k = []:=kc (by omega)
   rw [hd,hd2] at hinv
   have e1:decide ((k:Int) < ((a.length:Nat):Int)) = false:=by simp;omega
   rw [← hinv,show eqL eqS [] [] = true from rfl]
   (have zx:=za e1 lma);exact zg
  ·obtain ⟨hk',hget,hr⟩:=Qe hd
   have e1:decide ((k:Int) < ((a.length:Nat):Int)) = true:=by simp;omega
   rcases hd2:b.drop k with _|⟨z,r2⟩
   ·have:=Qj hd2;omega
   ·obtain ⟨hk2,hget2,hr2⟩:=Qe hd2
    rw [hd,hd2,eqL] at hinv
    have hw:=Qd (k:=k) (by omega)
    have hmy:=zj hget
    have hmz:=zj hget2
    skip
    rcases hyz:eqS y z with _|_
    ·rw [hyz,zD] at hinv
     rw [← hinv]
     have e2:(y == z) = false:=hyz
     (have zx:=za e1 (za lma (za hget (za hget2 (za hw e2)))));exact zg
    ·rw [hyz,zC] at hinv
     have e2:(y == z) = true:=hyz
     (have zx:=za e1 (za lma (za hget (za hget2 (za hw e2)))));refine zgo ?_;repeat' first|exact zt|apply zan|intro hc
     all_goals exact hL _ (k + 1) zet ⟨by omega,by rw [hr,hr2];exact hinv⟩ (by omega) zoe
 ·have e0:(((a.length:Nat):Int) != ((b.length:Nat):Int)) = true:=by simp;omega
  rw [abd a b hlen]
  (have zx:=za lma (za lmb e0));exact zg
def X0:=qd Proofs.Tryz.f198 [zhn 9]
def VC (Γ:Env) (f:Nat):Prop:=∀ (a b:List (List UInt8)) (ha:a.length < 2 ^ 60),EvN Γ f [.sl 1 (a.map V.str),.sl 1 (b.map V.str)] (V.bool (eqL eqS a b))
theorem aad {Γ:Env} {f:Nat} (h:Has Γ.P f 26 X0.1.1.ac X0.1.2) :VC Γ f:=by
 intro a b ha
 refine Qb h zsi zcl zcl fun C hC hm=>?_
 subst hC
 simp only [X0,qd,DC.ac]
 have lma:(a.map V.str).length = a.length:=zh _
 have lmb:(b.map V.str).length = b.length:=zh _
 by_cases hlen:a.length = b.length
 ·have e0:(((a.length:Nat):Int) != ((b.length:Nat):Int)) = false:=by simp [hlen]
  (have zx:=za lma (za lmb e0));refine zgo ?_;repeat' first|exact zt|apply zan|intro hc
  refine Qt (ι:=Nat) (fun k=>k≤a.length∧eqL eqS (a.drop k) (b.drop k) = eqL eqS a b) (fun k=>[(5,V.int k)]) (fun k=>a.length - k) 0 (by omega) ⟨zw _,rfl⟩ zol zlt zet fun k hk K' hL=>?_
  obtain ⟨hk,hinv⟩:=hk
  simp only [ovT,Jn,Nat.reduceEqDiff,reduceIte]
  rcases hd:a.drop k with _|⟨y,r⟩
  ·have:=Qj hd
   have hd2:b.drop k = []:=kc (by omega)
   rw [hd,hd2] at hinv
   have e1:decide ((k:Int) < ((a.length:Nat):Int)) = false:=by simp;omega
   rw [← hinv,show eqL eqS [] [] = true from rfl]
   (have zx:=za e1 lma);exact zg
  ·obtain ⟨hk',hget,hr⟩:=Qe hd
   have e1:decide ((k:Int) < ((a.length:Nat):Int)) = true:=by simp;omega
   rcases hd2:b.drop k with _|⟨z,r2⟩
   ·have:=Qj hd2;omega
   ·obtain ⟨hk2,hget2,hr2⟩:=Qe hd2
    rw [hd,hd2,eqL] at hinv
    have hw:=Qd (k:=k) (by omega)
    have hmy:=zj hget
    have hmz:=zj hget2
    skip
    rcases hyz:eqS y z with _|_
    ·rw [hyz,zD] at hinv
     rw [← hinv]
     have e2:(y == z) = false:=hyz
     (have zx:=za e1 (za lma (za hget (za hget2 (za hw e2)))));exact zg
    ·rw [hyz,zC] at hinv
     have e2:(y == z) = true:=hyz
     (have zx:=za e1 (za lma (za hget (za hget2 (za hw e2)))));refine zgo ?_;repeat' first|exact zt|apply zan|intro hc
     all_goals exact hL _ (k + 1) zet ⟨by omega,by rw [hr,hr2];exact hinv⟩ (by omega) zoe
 ·have e0:(((a.length:Nat):Int) != ((b.length:Nat):Int)) = true:=by simp;omega
  rw [abd a b hlen]
  (have zx:=za lma (za lmb e0));exact zg
def qo:=qd Proofs.Tryz.f161 []
def yK (Γ:Env) (f:Nat):Prop:=∀ (c d:Qk) (hc:c.names.length < 2 ^ 60),EvN Γ f [c.v,d.v] (V.bool (adJ c d))
theorem afG {Γ:Env} {f:Nat} (h:Has Γ.P f 87 qo.1.1.ac qo.1.2) (z0:VC Γ 198):yK Γ f:=by
 intro c d hc
 refine Qb h zsi zcl zcl fun C hC hm=>?_
 subst hC
 simp only [qo,qd,DC.ac]
 have hn:=(z0 c.names d.names hc).b
 simp only [Qk.v,Qk.cells]
 refine zgo ?_;repeat' first|exact zt|apply zan|intro hc
 all_goals (refine Qf _ rfl ?_;simp only [go_sem];simp [adJ,cs1,cs2,cs3, *];done)
def se1 (a b:QM):Bool:=(a.suites == b.suites) && ((a.anchors == b.anchors) && (a.hashes == b.hashes))
def se2 (a b:QM):Bool:=(a.name == b.name) && ((a.least == b.least) && ((a.most == b.most) && ((a.own == b.own) && (a.fall == b.fall))))
def anI (a b:QM):Bool:=se2 a b && (se1 a b && eqL vN a.idents b.idents)
def XY:=qd Proofs.Tryz.f114 [zhn 10]
def VA (Γ:Env) (f:Nat):Prop:=∀ (a b:List Qk) (ha:a.length < 2 ^ 60) (hn:∀ x∈a,x.names.length < 2 ^ 60),EvN Γ f [.sl 15 (a.map Qk.v),.sl 15 (b.map Qk.v)] (V.bool (eqL adJ a b))
attribute [local go_sem] Qk.cells Qk.v in
theorem aab {Γ:Env} {f:Nat} (h:Has Γ.P f 27 XY.1.1.ac XY.1.2) (z0:yK Γ 161):VA Γ f:=by
 intro a b ha hn
 refine Qb h zsi zcl zcl fun C hC hm=>?_
 subst hC
 simp only [XY,qd,DC.ac]
 have lma:(a.map Qk.v).length = a.length:=zh _
 have lmb:(b.map Qk.v).length = b.length:=zh _
 by_cases hlen:a.length = b.length
 ·have e0:(((a.length:Nat):Int) != ((b.length:Nat):Int)) = false:=by simp [hlen]
  (have zx:=za lma (za lmb e0));refine zgo ?_;repeat' first|exact zt|apply zan|intro hc
  refine Qt (ι:=Nat) (fun k=>k≤a.length∧eqL adJ (a.drop k) (b.drop k) = eqL adJ a b) (fun k=>[(5,V.int k)]) (fun k=>a.length - k) 0 (by omega) ⟨zw _,rfl⟩ zol zlt zet fun k hk K' hL=>?_
  obtain ⟨hk,hinv⟩:=hk
  simp only [ovT,Jn,Nat.reduceEqDiff,reduceIte]
  rcases hd:a.drop k with _|⟨y,r⟩
  ·have:=Qj hd
   have hd2:b.drop k = []:=kc (by omega)
   rw [hd,hd2] at hinv
   have e1:decide ((k:Int) < ((a.length:Nat):Int)) = false:=by simp;omega
   rw [← hinv,show eqL adJ [] [] = true from rfl]
   (have zx:=za e1 lma);exact zg
  ·obtain ⟨hk',hget,hr⟩:=Qe hd
   have e1:decide ((k:Int) < ((a.length:Nat):Int)) = true:=by simp;omega
   rcases hd2:b.drop k with _|⟨z,r2⟩
   ·have:=Qj hd2;omega
   ·obtain ⟨hk2,hget2,hr2⟩:=Qe hd2
    rw [hd,hd2,eqL] at hinv
    have hw:=Qd (k:=k) (by omega)
    have hmy:=zj hget
    have hmz:=zj hget2
    have hgy:=(z0 y z (hn y hmy)).b
    simp only [Qk.v,Qk.cells] at hgy
    rcases hyz:adJ y z with _|_
    ·rw [hyz,zD] at hinv
     rw [← hinv]
     rw [hyz] at hgy
     (have zx:=za e1 (za lma (za hget (za hget2 hw))));exact zg
    ·rw [hyz,zC] at hinv
     rw [hyz] at hgy
     (have zx:=za e1 (za lma (za hget (za hget2 hw))));refine zgo ?_;repeat' first|exact zt|apply zan|intro hc
     all_goals exact hL _ (k + 1) zet ⟨by omega,by rw [hr,hr2];exact hinv⟩ (by omega) zoe
 ·have e0:(((a.length:Nat):Int) != ((b.length:Nat):Int)) = true:=by simp;omega
  rw [abd a b hlen]
  (have zx:=za lma (za lmb e0));exact zg
def Yi:=qd Proofs.Tryz.f47 [zhn 38]
def Y8 (Γ:Env) (f:Nat):Prop:=∀ (a b:List QO) (ha:a.length < 2 ^ 60) (hl:∀ x∈a,x.chain.length < 2 ^ 60) (hn:∀ x∈a,∀ c∈x.chain,c.names.length < 2 ^ 60),EvN Γ f [.sl 4 (a.map QO.v),.sl 4 (b.map QO.v)] (V.bool (eqL vN a b))
attribute [local go_sem] QO.cells QO.v in
theorem j5 {Γ:Env} {f:Nat} (h:Has Γ.P f 55 Yi.1.1.ac Yi.1.2) (z0:VA Γ 114):Y8 Γ f:=by
 intro a b ha hl hn
 refine Qb h zsi zcl zcl fun C hC hm=>?_
 subst hC
 simp only [Yi,qd,DC.ac]
 have lma:(a.map QO.v).length = a.length:=zh _
 have lmb:(b.map QO.v).length = b.length:=zh _
 by_cases hlen:a.length = b.length
 ·have e0:(((a.length:Nat):Int) != ((b.length:Nat):Int)) = false:=by simp [hlen]
  (have zx:=za lma (za lmb e0));refine zgo ?_;repeat' first|exact zt|apply zan|intro hc
  refine Qt (ι:=Nat) (fun k=>k≤a.length∧eqL vN (a.drop k) (b.drop k) = eqL vN a b) (fun k=>[(5,V.int k)]) (fun k=>a.length - k) 0 (by omega) ⟨zw _,rfl⟩ zol zlt zet fun k hk K' hL=>?_
  obtain ⟨hk,hinv⟩:=hk
  simp only [ovT,Jn,Nat.reduceEqDiff,reduceIte]
  rcases hd:a.drop k with _|⟨y,r⟩
  ·have:=Qj hd
   have hd2:b.drop k = []:=kc (by omega)
   rw [hd,hd2] at hinv
   have e1:decide ((k:Int) < ((a.length:Nat):Int)) = false:=by simp;omega
   rw [← hinv,show eqL vN [] [] = true from rfl]
   (have zx:=za e1 lma);exact zg
  ·obtain ⟨hk',hget,hr⟩:=Qe hd
   have e1:decide ((k:Int) < ((a.length:Nat):Int)) = true:=by simp;omega
   rcases hd2:b.drop k with _|⟨z,r2⟩
   ·have:=Qj hd2;omega
   ·obtain ⟨hk2,hget2,hr2⟩:=Qe hd2
    rw [hd,hd2,eqL] at hinv
    have hw:=Qd (k:=k) (by omega)
    have hmy:=zj hget
    have hmz:=zj hget2
    have hgy:=(z0 y.chain z.chain (hl y hmy) (hn y hmy)).b
    have hfal:vN y z = false→eqL vN a b = false:=fun h=>by rw [← hinv,h,zD]
    have htru:vN y z = true→eqL vN r r2 = eqL vN a b:=fun h=>by rw [← hinv,h,zC]
    rcases y1:(y.kalg == z.kalg) with _|_<;>rcases y2:(y.kbits == z.kbits) with _|_<;>rcases y3:(y.kid != z.kid) with _|_
    all_goals
     (have zx:=za e1 (za lma (za hget (za hget2 (za hw (za y1 (za y2 y3)))))));refine zgo ?_;repeat' first|exact zt|apply zan|intro hc
     all_goals (try simp only [bne_eq_false_iff_eq,bne_iff_ne,ne_eq] at *)
     all_goals first|(rw [hfal]<;>first|(simp [vN, *];done)|exact zr)|exact hL _ (k + 1) zet ⟨by omega,by rw [hr,hr2];exact htru (by simp [vN, *])⟩ (by omega) zoe
 ·have e0:(((a.length:Nat):Int) != ((b.length:Nat):Int)) = true:=by simp;omega
  rw [abd a b hlen]
  (have zx:=za lma (za lmb e0));exact zg
structure QM.SmE (e:QM):Prop where
 hs:e.suites.length < 2 ^ 60
 ha:e.anchors.length < 2 ^ 60
 hh:e.hashes.length < 2 ^ 60
 hi:e.idents.length < 2 ^ 60
 hl:∀ x∈e.idents,x.chain.length < 2 ^ 60
 hn:∀ x∈e.idents,∀ c∈x.chain,c.names.length < 2 ^ 60
def qi:=qd Proofs.Tryz.f18 []
def yD (Γ:Env) (f:Nat):Prop:=∀ (a b:QM) (sm:a.SmE),EvN Γ f [a.v,b.v] (V.bool (anI a b))
theorem afz {Γ:Env} {f:Nat} (h:Has Γ.P f 66 qi.1.1.ac qi.1.2) (z0:V7 Γ 46) (z1:Y8 Γ 47):yD Γ f:=by
 intro a b sm
 refine Qb h zsi zcl zcl fun C hC hm=>?_
 subst hC
 simp only [qi,qd,DC.ac]
 have q1:=(z0 a.suites b.suites (by have:=sm.hs;omega)).b
 have q2:=(z0 a.anchors b.anchors (by have:=sm.ha;omega)).b
 have q3:=(z0 a.hashes b.hashes (by have:=sm.hh;omega)).b
 have q4:=(z1 a.idents b.idents sm.hi sm.hl sm.hn).b
 simp only [QM.v,QM.cells]
 refine zgo ?_;repeat' first|exact zt|apply zan|intro hc
 all_goals (refine Qf _ rfl ?_;simp only [go_sem];simp [anI,se1,se2, *];done)
end Av
end
