/- W20 -/
import Derived.Test.YtlpaikjhphkioaaGreatW13
import Derived.Test.YtlpaikjhphkioaaGreatW19
import Derived.Test.YtlpaikjhphkioaaGreatW12
import Derived.Test.YtlpaikjhphkioaaGreatW14
set_option linter.unusedVariables false
set_option linter.unusedSimpArgs false
noncomputable section
set_option maxRecDepth 10000
set_option maxHeartbeats 4000000
namespace Av
open Go
attribute [local irreducible] AWp Vy K7 jE awS awC aaG awQ abg QW Uc vZ awR Uj awB okR jt ris
section
variable {α:Type}
def gK (lt:α→α→Bool) (out:List α) (x:α):Nat→Nat
 | 0=>0
 | k + 1=>if (match out[k]? with|some y=>lt x y|none=>false) = true then gK lt out x k else k + 1
theorem aoS (lt:α→α→Bool) (out:List α) (x:α):∀ k,gK lt out x k≤k
 | 0=>zh _
 | k + 1=>by
   rw [gK]
   by_cases h:(match out[k]? with|some y=>lt x y|none=>false) = true
   ·rw [if_pos h];exact Zj (aoS lt out x k)
   ·rw [if_neg h];exact zh _
def afl (lt:α→α→Bool) (out:List α) (x:α):List α:=out.take (gK lt out x out.length)++[x]++out.drop (gK lt out x out.length)
def jF (lt:α→α→Bool) (l:List α):List α:=l.foldl (afl lt) []
theorem amU (lt:α→α→Bool) (out:List α) (x:α):(afl lt out x).length = out.length + 1:=by
 have:=aoS lt out x out.length
 simp [afl];omega
theorem af4 (lt:α→α→Bool):∀ (l out:List α),(l.foldl (afl lt) out).length = out.length + l.length
 | [],out=>by simp
 | x :: r,out=>by rw [List.foldl_cons,af4 lt r,amU];simp;omega
theorem ab7 (lt:α→α→Bool) (l:List α):(jF lt l).length = l.length:=by rw [jF,af4];simp
theorem amT {lt:α→α→Bool} {out:List α} {x y:α}:y∈afl lt out x↔y = x∨y∈out:=by
 have:y∈out↔y∈out.take (gK lt out x out.length)∨y∈out.drop (gK lt out x out.length):=by
  rw [← zY,Zs]
 simp only [afl,zY,zu,this]
 constructor
 ·rintro ((h|h)|h)
  ·exact .inr (.inl h)
  ·exact .inl h
  ·exact .inr (.inr h)
 ·rintro (h|h|h)
  ·exact .inl (.inr h)
  ·exact .inl (.inl h)
  ·exact .inr h
theorem af3 {lt:α→α→Bool} {y:α}:∀ (l out:List α),y∈l.foldl (afl lt) out↔y∈out∨y∈l
 | [],out=>by simp
 | x :: r,out=>by
   rw [List.foldl_cons,af3 r,amT,zC]
   constructor
   ·rintro ((h|h)|h)
    ·exact .inr (.inl h)
    ·exact .inl h
    ·exact .inr (.inr h)
   ·rintro (h|h|h)
    ·exact .inl (.inr h)
    ·exact .inl (.inl h)
    ·exact .inr h
theorem alm {lt:α→α→Bool} {y:α} {l:List α}:y∈jF lt l↔y∈l:=by rw [jF,af3];simp
theorem alo {lt:α→α→Bool} {out:List α} {x:α}:(afl lt out x).Perm (x :: out):=by
 have h:(out.take (gK lt out x out.length)++out.drop (gK lt out x out.length)).Perm out:=by rw [Zs]
 rw [afl,Za,List.singleton_append]
 exact List.perm_middle.trans (h.cons x)
theorem adX {lt:α→α→Bool}:∀ (l out:List α),(l.foldl (afl lt) out).Perm (l++out)
 | [],out=>by simp
 | x :: r,out=>by
   rw [List.foldl_cons,List.cons_append]
   exact ((adX r (afl lt out x)).trans (List.Perm.append_left r alo)).trans List.perm_middle
theorem Wz {lt:α→α→Bool} {l:List α}:(jF lt l).Perm l:=by have:=adX (lt:=lt) l [];rwa [km] at this
def Ord (lt:α→α→Bool) (l:List α):Prop:=l.Pairwise fun x y=>lt y x = false
theorem aln {lt:α→α→Bool} {out:List α} {x:α}:∀ k,k≤out.length→(∀ j,gK lt out x k≤j→j < k→∀ y,out[j]? = some y→lt x y = true)∧(0 < gK lt out x k→∀ y,out[gK lt out x k - 1]? = some y→lt x y = false)
 | 0,_=>⟨fun j h1 h2=>by omega,fun h=>by simp [gK] at h⟩
 | k + 1,hk=>by
   obtain ⟨i1,i2⟩:=aln (lt:=lt) (out:=out) (x:=x) k (by omega)
   have hy:out[k]? = some out[k]:=zd (by omega)
   simp only [gK,hy]
   split
   ·rename_i h
    refine ⟨fun j h1 h2 y e=>?_,i2⟩
    by_cases hj:j = k
    ·subst hj;rw [hy] at e;cases e;exact h
    ·exact i1 j h1 (by omega) y e
   ·rename_i h
    refine ⟨fun j h1 h2=>by omega,fun _ y e=>?_⟩
    rw [Nat.add_sub_cancel,hy] at e;cases e
    simpa using h
theorem amS {lt:α→α→Bool} (htr:∀ x y z,lt y x = false→lt z y = false→lt z x = false) (has:∀ x y,lt x y = true→lt y x = false) {out:List α} {x:α} (h:Ord lt out):Ord lt (afl lt out x):=by
 obtain ⟨h1,h2⟩:=aln (lt:=lt) (out:=out) (x:=x) out.length (zh _)
 have hle:=aoS lt out x out.length
 unfold Ord afl at *
 generalize gK lt out x out.length = k at *
 have hto:(out.take k).Pairwise fun x y=>lt y x = false:=h.sublist (Z6 _ _)
 have hdr:(out.drop k).Pairwise fun x y=>lt y x = false:=h.sublist (List.drop_sublist _ _)
 have hcr:∀ a∈out.take k,∀ b∈out.drop k,lt b a = false:=by
  have:=h
  rw [← Zs k out,kP] at this
  exact this.2.2
 have hx1:∀ a∈out.take k,lt x a = false:=by
  intro a ha
  rcases ZB k with hk|hk
  ·subst hk;simp at ha
  ·have hlast:out[k - 1]? = some out[k - 1]:=zd (by omega)
   have hxl:=h2 hk _ hlast
   obtain ⟨i,hi,rfl⟩:=kx ha
   simp only [zT] at hi
   rw [ZJ]
   by_cases e:i = k - 1
   ·subst e;exact hxl
   ·have:=(kj.1 h) i (k - 1) (by omega) (by omega) (by omega)
    exact htr _ _ _ this hxl
 have hx2:∀ b∈out.drop k,lt b x = false:=by
  intro b hb
  obtain ⟨i,hi,rfl⟩:=kx hb
  rw [List.getElem_drop]
  simp only [kq] at hi
  exact has _ _ (h1 (k + i) (by omega) (by omega) _ (zd (by omega)))
 rw [Za,List.singleton_append,kP]
 refine ⟨hto,ZD.2 ⟨hx2,hdr⟩,fun a ha b hb=>?_⟩
 rcases zC.1 hb with rfl|hb
 ·exact hx1 a ha
 ·exact hcr a ha b hb
theorem af2 {lt:α→α→Bool} (htr:∀ x y z,lt y x = false→lt z y = false→lt z x = false) (has:∀ x y,lt x y = true→lt y x = false):∀ (l out:List α),Ord lt out→Ord lt (l.foldl (afl lt) out)
 | [],_,h=>h
 | x :: r,out,h=>af2 htr has r _ (amS htr has h)
theorem xW {lt:α→α→Bool} (htr:∀ x y z,lt y x = false→lt z y = false→lt z x = false) (has:∀ x y,lt x y = true→lt y x = false) (l:List α):Ord lt (jF lt l):=af2 htr has l [] List.Pairwise.nil
end
abbrev V.u64 (n:Int):V:=.sc (.int .u64 n)
def YX:=qd Proofs.Tryz.f132 []
def Wo (Γ:Env) (f:Nat):Prop:=∀ (n:Int),EvN Γ f [V.int n] (V.bool false)
theorem xc {Γ:Env} {f:Nat} (h:Has Γ.P f 6 YX.1.1.ac YX.1.2) :Wo Γ f:=by
 intro n
 refine Qb h zsi zcl zcl fun C hC hm=>?_
 subst hC
 simp only [YX,qd,DC.ac]
 have e:(n != n) = false:=by simp
 (have zx:=e);exact zg
def V4:=qd Proofs.Tryz.f131 []
def KA (Γ:Env) (f:Nat):Prop:=∀ (a b:Int),EvN Γ f [V.int a,V.int b] (V.bool (decide (a < b)))
theorem aco {Γ:Env} {f:Nat} (h:Has Γ.P f 17 V4.1.1.ac V4.1.2) (z0:Wd Γ 164):KA Γ f:=by
 intro a b
 refine Qb h zsi zcl zcl fun C hC hm=>?_
 subst hC
 simp only [V4,qd,DC.ac]
 have n1:=(z0 _ rfl a).b
 have n2:=(z0 _ rfl b).b
 repeat' (first|(refine zsk ?_;intro K' hK)|refine zsp ?_|(refine zsc ?_ ?_<;>intro hc<;>first|exact znh|try simp only [znz] at hc)|simp (maxSteps:=1000000) only [go_sem]|(refine hK _ ?_;clear hK K')|apply zan|(apply Qr;(focus first|exact n1|exact n2))|exact zsq|fail)
 all_goals exact zr
def Jd:=qd Proofs.Tryz.f110 []
def Jz (Γ:Env) (f:Nat):Prop:=∀ (l:List Int) (x:Int) (hl:l.length < 2 ^ 34),EvN Γ f [.sl 1 (l.map V.int),V.int x] (.tup [V.int (bsI ltJ l x:Nat),V.bool (Jw l (bsI ltJ l x) x)])
attribute [local go_sem] Jk in
theorem Vx {Γ:Env} {f:Nat} (h:Has Γ.P f 54 Jd.1.1.ac Jd.1.2) (z0:KA Γ 131) (z1:Wo Γ 132):Jz Γ f:=by
 intro l x hl
 refine Qb h zsi zcl zcl fun C hC hm=>?_
 subst hC
 simp only [Jd,qd,DC.ac]
 refine zgo ?_;repeat' first|exact zt|apply zan|intro hc
 refine Qp (ι:=Nat×Nat×Nat) (fun q=>q.2.1≤q.2.2∧q.2.2≤l.length∧q.2.2 - q.2.1≤q.1∧agS ltJ l x q.1 q.2.1 q.2.2 = bsI ltJ l x) (fun q=>Jk [(0,.sl 1 (l.map V.int)),(1,V.int x),(6,V.int l.length),(7,V.int q.2.1),(8,V.int q.2.2)] [] 0) (fun q=>q.2.2 - q.2.1) (l.length,0,l.length) ⟨zG _,zh _,by simp,rfl⟩ (Qd []) (Qh [] (by simp only [go_sem,zwl,zb]<;>exact zcc) zwa (by simp) (by simp) (by omega)) fun q hq K' hL=>?_
 obtain ⟨n,i,j⟩:=q
 simp only at hq hL ⊢
 obtain ⟨h1,h2,h3,h4⟩:=hq
 have hb:bsI ltJ l x≤l.length:=agA
 by_cases hij:i < j
 ·obtain ⟨n,rfl⟩:∃ m,n = m + 1:=⟨n - 1,by omega⟩
  have e1:decide ((i:Int) < (j:Int)) = true:=zo (by omega)
  have hh:=adW (a:=i) (b:=j) (by omega)
  rw [agS,if_pos hij] at h4
  have r1:i≤(i + j) / 2:=by omega
  have r2:(i + j) / 2 < j:=by omega
  generalize (i + j) / 2 = r at *
  obtain ⟨y,hy⟩:∃ y,l[r]? = some y:=⟨_,zd (by omega)⟩
  rw [hy] at h4
  simp only at h4
  have p1:EvB C.env 131 [V.int y,V.int x] (V.bool (ltJ y x)) none:=(z0 y x).b
  have hwr:=Qg (k:=r) (by omega)
  rcases hlt:ltJ y x with _|_
  ·rw [hlt] at p1 h4
   rw [if_neg (by decide)] at h4
   (have zx:=za e1 (za hh (za hwr hy)));refine zgo ?_;repeat' first|exact zt|apply zan|intro hc
   all_goals exact hL _ (n,i,r) (Qd []) ⟨by simp only;omega,by simp only;omega,by simp only;omega,h4⟩ (by simp only;omega) (zwg [])
  ·rw [hlt] at p1 h4
   rw [if_pos rfl] at h4
   (have zx:=za e1 (za hh (za hwr hy)));refine zgo ?_;repeat' first|exact zt|apply zan|intro hc
   all_goals exact hL _ (n,r + 1,j) (Qd []) ⟨by simp only;omega,by simp only;omega,by simp only;omega,h4⟩ (by simp only;omega) (zwg [])
 ·have e1:decide ((i:Int) < (j:Int)) = false:=zp (by omega)
  have hbi:bsI ltJ l x = i:=by
   rw [← h4]
   rcases n with _|n
   ·rfl
   ·rw [agS,if_neg hij]
  rw [hbi]
  by_cases hil:i < l.length
  ·have e2:decide ((i:Int) < (l.length:Int)) = true:=zo (by omega)
   obtain ⟨y,hy⟩:∃ y,l[i]? = some y:=⟨_,zd hil⟩
   have hf:Jw l i x = (y == x):=by simp only [Jw,hy]
   have p2:=(z1 y).b
   rw [hf]
   rcases hyx:y == x with _|_
   ·(have zx:=za e1 (za e2 (za hyx hy)));exact zg
   ·(have zx:=za e1 (za e2 (za hyx hy)));exact zg
  ·have e2:decide ((i:Int) < (l.length:Int)) = false:=zp (by omega)
   have hf:Jw l i x = false:=by rw [Jw,zW (by omega)]
   rw [hf]
   (have zx:=za e1 e2);exact zg
def XQ (Γ:Env) (f:Nat):Prop:=((∀ (xs:List Int) (i:Nat) (x:Int),i≤xs.length→0 < xs.length→xs.length < 2 ^ 30→aqC Γ f (V.int i) 1 (xs.map V.int) [V.int x] ((xs.take i++x :: xs.drop i).map V.int))∧(∀ x:Int,EvW Γ f [wW,V.int 0,.sl 1 [V.int x]] 1 [V.int x]))
def Jm:=qd Proofs.Tryz.f87 []
def YU (Γ:Env) (f:Nat):Prop:=((∀ (xs:List Int) (x:Int),0 < xs.length→xs.length < 2 ^ 30→Jw xs (bsI ltJ xs x) x = true→EvX Γ f [V.int x] 1 (xs.map V.int))∧(∀ (xs:List Int) (x:Int),0 < xs.length→xs.length < 2 ^ 30→Jw xs (bsI ltJ xs x) x = false→EvI Γ f [V.int x] 1 (xs.map V.int) ((aaU ltJ xs x).map V.int))∧(∀ x:Int,EvW Γ f [wW,V.int x] 1 [V.int x]))
theorem jI {Γ:Env} {f:Nat} (h:Has Γ.P f 20 Jm.1.1.ac Jm.1.2) (z0:Jz Γ 110) (z1:XQ Γ 111):YU Γ f:=by
 obtain ⟨hI,hW⟩:=z1
 refine ⟨fun xs x h0 hl hf=>?_,fun xs x h0 hl hf=>?_,fun x=>?_⟩
 ·refine Kh h (by simp) fun C hC hm=>?_
  subst hC
  simp only [Jm,qd,DC.ac]
  have hb:=(z0 xs x (by omega)).b
  rw [hf] at hb
  have ht:List.take (xs.map V.int).length (xs.map V.int) = xs.map V.int:=zQ
  (have zx:=ht);refine zgo ?_;repeat' first|exact zt|apply zan|intro hc
  all_goals first|(refine agl _ rfl rfl rfl ?_;first|rfl|(simp;done))
 ·refine acu h (by simp) fun C hC hm=>?_
  subst hC
  simp only [Jm,qd,DC.ac]
  have hb:=(z0 xs x (by omega)).b
  have hi:=hI xs (bsI ltJ xs x) x agA h0 hl
  rw [aaU,if_neg (by rw [hf];decide)]
  rw [hf] at hb
  have ht:List.take (xs.map V.int).length (xs.map V.int) = xs.map V.int:=zQ
  generalize bsI ltJ xs x = i at *
  repeat' (first|(refine zsk ?_;intro K' hK)|refine zsp ?_|(refine zsc ?_ ?_<;>intro hc<;>first|exact znh|try simp only [znz] at hc)|simp (maxSteps:=1000000) only [go_sem,ht]|(refine hK _ ?_;clear hK K')|apply zan|(apply agF;(focus exact rfl);(focus first|exact hi);(focus exact rfl);(focus exact rfl);(focus (first|exact rfl|(simp;done))))|(apply acK;(focus exact rfl);(focus exact rfl);(focus first|exact hi);(focus exact rfl);(focus (first|exact rfl|(simp;done)));(focus (first|exact rfl|(simp;done))))|(apply Qr;(focus first|exact hb|exact (z0 _ _ zsd).b))|exact zsq|fail)
  all_goals first|(refine an4 _ _ rfl ⟨_,rfl⟩ rfl (by omega) rfl ?_;first|rfl|(simp;done))
 ·refine Xc h (by simp) (by intro y hy;rw [zu.1 hy];simp only [V.noSl]) fun C hC hm=>?_
  subst hC
  simp only [Jm,qd,DC.ac]
  have hb:=(z0 [] x (by simp)).b
  have hw:=hW x
  simp only [zL] at hb
  have hb:=hb.le2 (LeV.nil 1) (LeV.refl _)
  refine zgo ?_;repeat' first|exact zt|apply zan|intro hc
  all_goals first|(refine qH (xs:=[V.int x]) _ _ rfl ?_ ?_<;>first|rfl|(simp;done))
def JT:=qd Proofs.Tryz.f38 []
def JM (Γ:Env) (f:Nat):Prop:=∀ (l:List Int) (hl:l.length < 2 ^ 34),EvW Γ f [.sl 1 (l.map V.int)] 1 (l.map V.int)
theorem K9 {Γ:Env} {f:Nat} (h:Has Γ.P f 8 JT.1.1.ac JT.1.2) :JM Γ f:=by
 intro l hl
 refine Xc h (by simp) (by first|exact ab2 _|exact abB _) fun C hC hm=>?_
 subst hC
 simp only [JT,qd,DC.ac]
 rcases l with _|⟨x,r⟩
 ·repeat' (first|(refine zsk ?_;intro K' hK)|refine zsp ?_|(refine zsc ?_ ?_<;>intro hc<;>first|exact znh|try simp only [znz] at hc)|simp (maxSteps:=1000000) only [go_sem]|(refine hK _ ?_;clear hK K')|apply zan|exact zsq|fail)
  intro t
  rcases t with _|_
  ·repeat' (first|(refine zsk ?_;intro K' hK)|refine zsp ?_|(refine zsc ?_ ?_<;>intro hc<;>first|exact znh|try simp only [znz] at hc)|simp (maxSteps:=1000000) only [go_sem]|(refine hK _ ?_;clear hK K')|apply zan|exact zsq|fail)
   all_goals (refine qH (xs:=[]) _ _ rfl ?_ ?_<;>first|rfl|(simp;done))
  ·repeat' (first|(refine zsk ?_;intro K' hK)|refine zsp ?_|(refine zsc ?_ ?_<;>intro hc<;>first|exact znh|try simp only [znz] at hc)|simp (maxSteps:=1000000) only [go_sem]|(refine hK _ ?_;clear hK K')|apply zan|exact zsq|fail)
   all_goals (refine qH (xs:=[]) _ _ rfl ?_ ?_<;>first|rfl|(simp;done))
 ·repeat' (first|(refine zsk ?_;intro K' hK)|refine zsp ?_|(refine zsc ?_ ?_<;>intro hc<;>first|exact znh|try simp only [znz] at hc)|simp (maxSteps:=1000000) only [go_sem]|(refine hK _ ?_;clear hK K')|apply zan|exact zsq|fail)
  all_goals first
   | (simp only [zb,List.length_cons] at hl ⊢;omega)
   | (refine qH (xs:=V.int x :: List.map V.int r) _ _ rfl ?_ ?_<;>first|rfl|(simp;done))
end Av
end
