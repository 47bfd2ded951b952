/- Spent buffers in regions whose order is open. -/
import Derived.Test.YtjobognfgjobfaaGreatDoorK19
import Derived.Test.YtjobognfgjobfaaGreatDoorK12
import Derived.Test.YtjobognfgjobfaaGreatDoorK22
import Derived.Test.YtjobognfgjobfaaGreatDoorK20
set_option linter.unusedVariables false
set_option linter.unusedSimpArgs false
noncomputable section
set_option maxRecDepth 10000
set_option maxHeartbeats 4000000
namespace Av
open Go
attribute [local irreducible] AWp WC wb aai awS awC aeM awQ afz Jk qV aes awR jj awB okR aaf ris
def awl (f:Qa):Prop:=0≤f.day∧f.day≤40000
def amk (a b:Qa):Int:=if a.day - b.day < b.day - a.day then b.day - a.day else a.day - b.day
def Ws:=qd Proofs.Tryz.f164 []
def X3 (Γ:Env) (f:Nat):Prop:=∀ (a b:Qa) (ha:awl a) (hb:awl b),EvN Γ f [a.v,b.v] (V.int (amk a b))
theorem ab9 {Γ:Env} {f:Nat} (h:Has Γ.P f 16 Ws.1.1.ac Ws.1.2) :X3 Γ f:=by
 intro a b ha hb
 refine Qc h zsi zcl zcl fun C hC hm=>?_
 subst hC
 simp only [Ws,qd,DC.ac]
 obtain ⟨a1,a2⟩:=ha
 obtain ⟨b1,b2⟩:=hb
 have w1:IntKind.i64.wrap (a.day - b.day) = a.day - b.day:=Jc (by omega) (by omega)
 have w2:IntKind.i64.wrap (b.day - a.day) = b.day - a.day:=Jc (by omega) (by omega)
 simp only [Qa.v,Qa.cells,amk]
 (have zx:=za w1 w2);refine zgo ?_;repeat' first|exact zt|apply zan|intro hc
 all_goals first|exact zr|(refine Qg _ rfl ?_;simp only [go_sem];simp;done)
def wO:=qd Proofs.Tryz.f203 []
def xi (Γ:Env) (f:Nat):Prop:=∀ G:Env,G.P = Γ.P→∀ l:List Int,l.length < 2 ^ 60→EvN G f [.sl 1 (l.map V.int)] (V.int (Yr l))
theorem akE {Γ:Env} {f:Nat} (h:Has Γ.P f 18 wO.1.1.ac wO.1.2) :xi Γ f:=by
 intro G hG l hl
 rw [← hG] at h
 refine Qc h (by simp) (by simp only [V.closed]) (by simp only [V.noSl]) fun C hC hm=>?_
 subst hC;simp only [wO,qd,DC.ac]
 refine zgo ?_;repeat' first|exact zt|apply zan|intro hc
 refine Ji (ι:=Nat) (fun k=>k≤l.length∧Yr (l.drop k) = Yr l) (fun k=>[(8,V.int k)]) (fun k=>l.length - k) 0 (by omega) ⟨zJ _,rfl⟩ zol zlt zet fun k hk K' hL=>?_
 obtain ⟨hk,hinv⟩:=hk
 simp only [ovT,Xs,Nat.reduceEqDiff,reduceIte]
 rcases hd:l.drop k with _|⟨x,r⟩
 ·have hkl:=Qu hd
  have e1:decide ((k:Int) < (((l.map V.int).length:Nat):Int)) = false:=by simp;omega
  rw [hd] at hinv
  have e8:Yr l = 0:=by rw [← hinv];rfl
  rw [e8]
  (have zx:=e1);exact zg
 ·obtain ⟨hk',hget,hr⟩:=Qq hd
  have hw:=Qe (k:=k) (by omega)
  have e1:decide ((k:Int) < (((l.map V.int).length:Nat):Int)) = true:=by simp;omega
  have e6:=ahX hget
  rw [hinv] at e6
  by_cases hx:x = 0
  ·subst hx
   rw [if_neg (by simp)] at e6
   (have zx:=za e1 (za hw hget));refine zgo ?_;repeat' first|exact zt|apply zan|intro hc
   all_goals exact hL _ (k + 1) zet ⟨by omega,e6.symm⟩ (by omega) zoe
  ·have e7:(x != 0) = true:=by simpa using hx
   rw [if_pos hx] at e6
   rw [e6]
   (have zx:=za e1 (za hw (za hget e7)));exact zg
def aam (l:List Qa) (f:Qa) (gap best:Int) (i:Nat):Int :=
 match l[i]? with
 | none=>best
 | some g=>if g.mach = 0∨g.host≠f.host∨amk f g > gap then best else if best < 0 then (i:Int) else
   match l[best.toNat]? with
   | none=>best
   | some h=>if Yr [Kz (amk f g) (amk f h),Kz g.day h.day,Kz g.mach h.mach] < 0 then (i:Int) else best
def acs (l:List Qa) (f:Qa) (gap:Int) (k:Nat):Int:=(List.range k).foldl (aam l f gap) (-1)
def akk (l:List Qa) (f:Qa) (gap:Int):Int:=acs l f gap l.length
theorem ahN (l:List Qa) (f:Qa) (gap:Int) (k:Nat):acs l f gap (k + 1) = aam l f gap (acs l f gap k) k:=by
 rw [acs,ZO,ZE];rfl
theorem alA {l:List Qa} {f:Qa} {gap best:Int} {k:Nat} (h:best = -1∨(0≤best∧best < k)):aam l f gap best k = -1∨(0≤aam l f gap best k∧aam l f gap best k < (k + 1:Nat)):=by
 unfold aam
 split
 ·omega
 ·split
  ·omega
  ·split
   ·omega
   ·split
    ·omega
    ·split<;>omega
theorem aeY (l:List Qa) (f:Qa) (gap:Int):∀ k,acs l f gap k = -1∨(0≤acs l f gap k∧acs l f gap k < (k:Int))
 | 0=>.inl rfl
 | k + 1=>by rw [ahN];exact alA (aeY l f gap k)
def W9:=qd Proofs.Tryz.f163 [zhn 33]
def Kc (Γ:Env) (f:Nat):Prop:=∀ (l:List Qa) (f0:Qa) (gap:Int) (hl:l.length < 2 ^ 40) (hd:∀ x∈l,awl x) (hf:awl f0),EvN Γ f [.sl 11 (l.map Qa.v),f0.v,V.int gap] (V.int (akk l f0 gap))
attribute [local go_sem] Qa.cells Qa.v QS in
theorem acR {Γ:Env} {f:Nat} (h:Has Γ.P f 70 W9.1.1.ac W9.1.2) (z0:X3 Γ 164) (z1:XO Γ 146) (z2:xi Γ 203):Kc Γ f:=by
 intro l f0 gap hl hd hf
 refine Qc h zsi zcl zcl fun C hC hm=>?_
 subst hC
 simp only [W9,qd,DC.ac]
 simp only [Qa.v,Qa.cells]
 refine zgo ?_;repeat' first|exact zt|apply zan|intro hc
 refine Qj (ι:=Nat) (fun k=>k≤l.length) (fun k=>QS [(0,.sl 11 (l.map Qa.v)),(2,V.int gap),(4,.ptr 0 0),(7,V.int (acs l f0 gap k)),(10,.sl 11 (l.map Qa.v)),(11,V.int l.length),(12,V.int k)] [(0,.box true f0.cells)] 1) (fun k=>l.length - k) 0 (zJ _) (Qd []) (Qh [] (by simp only [go_sem,zwl,zb]<;>exact zcc) (by simp only [go_sem,zwl,Qa.cells]<;>exact zcc) (by simp) (by simp) (by omega)) fun k hk K' hL=>?_
 have hrng:=aeY l f0 gap k
 have hsuc:=ahN l f0 gap k
 have hN:akk l f0 gap = acs l f0 gap l.length:=rfl
 rcases hdr:l.drop k with _|⟨g,r⟩
 ·have hkl:=Qu hdr
  have e1:decide ((k:Int) < (l.length:Int)) = false:=by simp;omega
  obtain rfl:k = l.length:=by omega
  rw [hN]
  (have zx:=e1);exact zg
 ·obtain ⟨hk',hget,hr⟩:=Qq hdr
  have hw:=Qe (k:=k) (by omega)
  have e1:decide ((k:Int) < (l.length:Int)) = true:=by simp;omega
  have hg:=hd g (zq hget)
  have p1:=(z0 f0 g hf hg).b
  rw [aam,hget] at hsuc
  simp only at hsuc
  clear hN
  generalize acs l f0 gap k = best at *
  generalize amk f0 g = dg at *
  simp only [Qa.v,Qa.cells] at p1 hL ⊢
  by_cases c1:g.mach = 0
  ·rw [if_pos (.inl c1)] at hsuc
   have e2:(g.mach == 0) = true:=by simpa using c1
   (have zx:=za e1 (za e2 (za hw hget)));refine zgo ?_;repeat' first|exact zt|apply zan|intro hc
   all_goals exact hL _ (k + 1) (Qd []) (by omega) (by omega) (by rw [hsuc];exact Qh [] zwa (by simp only [go_sem,zwl,Qa.cells]<;>exact zcc) (by simp) (by simp) (by omega))
  have e2:(g.mach == 0) = false:=by simpa using c1
  by_cases c2:g.host = f0.host
  ·by_cases c3:dg > gap
   ·rw [if_pos (.inr (.inr c3))] at hsuc
    have e3:(g.host == f0.host) = true:=by simpa using c2
    have e4:decide (dg > gap) = true:=zn c3
    (have zx:=za e1 (za e2 (za e3 (za e4 (za hw hget)))));refine zgo ?_;repeat' first|exact zt|apply zan|intro hc
    all_goals exact hL _ (k + 1) (Qd []) (by omega) (by omega) (by rw [hsuc];exact Qh [] zwa (by simp only [go_sem,zwl,Qa.cells]<;>exact zcc) (by simp) (by simp) (by omega))
   have e3:(g.host == f0.host) = true:=by simpa using c2
   have e4:decide (dg > gap) = false:=zp c3
   rw [if_neg (by simp only [not_or,Decidable.not_not];exact ⟨c1,c2,c3⟩)] at hsuc
   by_cases c4:best < 0
   ·rw [if_pos c4] at hsuc
    have e5:decide (best < 0) = true:=zn c4
    (have zx:=za e1 (za e2 (za e3 (za e4 (za e5 (za hw hget))))));refine zgo ?_;repeat' first|exact zt|apply zan|intro hc
    all_goals exact hL _ (k + 1) (Qd []) (by omega) (by omega) (by rw [hsuc];exact Qh [] zwa (by simp only [go_sem,zwl,Qa.cells]<;>exact zcc) (by simp) (by simp) (by omega))
   ·rw [if_neg c4] at hsuc
    have e5:decide (best < 0) = false:=zp c4
    obtain ⟨j,rfl⟩:∃ j:Nat,best = j:=⟨best.toNat,by omega⟩
    have hj:j < l.length:=by omega
    obtain ⟨q,hgq⟩:∃ q,l[j]? = some q:=⟨_,zd hj⟩
    rw [Int.toNat_natCast,hgq] at hsuc
    simp only at hsuc
    have p2:=(z0 f0 q hf (hd q (zq hgq))).b
    generalize amk f0 q = dq at *
    have p3:=(z1 _ rfl dg dq).b
    have p4:=(z1 _ rfl g.day q.day).b
    have p5:=(z1 _ rfl g.mach q.mach).b
    have p6:=(z2 _ rfl [Kz dg dq,Kz g.day q.day,Kz g.mach q.mach] (by simp)).b
    generalize Yr [Kz dg dq,Kz g.day q.day,Kz g.mach q.mach] = ff at *
    simp only [Qa.v,Qa.cells,zE,zH] at p2 p6
    by_cases c5:ff < 0
    ·rw [if_pos c5] at hsuc
     have e6:decide (ff < 0) = true:=zn c5
     (have zx:=za e1 (za e2 (za e3 (za e4 (za e5 (za e6 (za hw (za hget hgq))))))));refine zgo ?_;repeat' first|exact zt|apply zan|intro hc
     all_goals exact hL _ (k + 1) (Qd []) (by omega) (by omega) (by rw [hsuc];exact Qh [] zwa (by simp only [go_sem,zwl,Qa.cells]<;>exact zcc) (by simp) (by simp) (by omega))
    ·rw [if_neg c5] at hsuc
     have e6:decide (ff < 0) = false:=zp c5
     (have zx:=za e1 (za e2 (za e3 (za e4 (za e5 (za e6 (za hw (za hget hgq))))))));refine zgo ?_;repeat' first|exact zt|apply zan|intro hc
     all_goals exact hL _ (k + 1) (Qd []) (by omega) (by omega) (by rw [hsuc];exact Qh [] zwa (by simp only [go_sem,zwl,Qa.cells]<;>exact zcc) (by simp) (by simp) (by omega))
  ·rw [if_pos (.inr (.inl c2))] at hsuc
   have e3:(g.host == f0.host) = false:=by simpa using c2
   (have zx:=za e1 (za e2 (za e3 (za hw hget))));refine zgo ?_;repeat' first|exact zt|apply zan|intro hc
   all_goals exact hL _ (k + 1) (Qd []) (by omega) (by omega) (by rw [hsuc];exact Qh [] zwa (by simp only [go_sem,zwl,Qa.cells]<;>exact zcc) (by simp) (by simp) (by omega))
def Qa.Sz (f:Qa):Prop:=f.host.length < 2 ^ 60∧f.subj.length < 2 ^ 60∧f.text.length < 2 ^ 60
def ltF (a b:Qa):Bool:=decide (ags a b < 0)
def arE (l:List Qa):Bool:=okP YI ltF l l.length
def wc (l:List Qa):Bool:=arE l && decide ((l.length:Int)≤400)
theorem awp (b:Bool):((bif b then (0:Int) else 24) != 0) = !b:=by cases b<;>rfl
def UL:=qd Proofs.Tryz.f134 [zhn 17]
def Ue (Γ:Env) (f:Nat):Prop:=∀ (l:List Qa) (hl:l.length < 2 ^ 40) (hz:∀ x∈l,x.Sz),EvN Γ f [.sl 11 (l.map Qa.v)] (V.bool (wc l))
attribute [local go_sem] zb Qa.cells Qa.v QS in
theorem afk {Γ:Env} {f:Nat} (h:Has Γ.P f 33 UL.1.1.ac UL.1.2) (z0:WO Γ 72) (z1:UY Γ 75):Ue Γ f:=by
 intro l hl hz
 refine Qc h zsi zcl zcl fun C hC hm=>?_
 subst hC
 simp only [UL,qd,DC.ac]
 refine zgo ?_;repeat' first|exact zt|apply zan|intro hc
 refine Qj (ι:=Nat) (fun k=>k≤l.length∧okP YI ltF l k = true) (fun k=>QS [(0,.sl 11 (l.map Qa.v)),(5,.sl 11 (l.map Qa.v)),(6,V.int l.length),(7,V.int k)] [] 0) (fun k=>l.length - k) 0 ⟨zJ _,rfl⟩ (Qd []) (Qh [] (by simp only [go_sem,zwl,zb]<;>exact zcc) zwa (by simp) (by simp) (by omega)) fun k hk K' hL=>?_
 obtain ⟨hk,hinv⟩:=hk
 rcases hd:l.drop k with _|⟨x,r⟩
 ·have hkl:=Qu hd
  have e1:decide ((k:Int) < (l.length:Int)) = false:=by simp;omega
  have hkk:k = l.length:=by omega
  subst hkk
  have hn:wc l = decide ((l.length:Int)≤400):=by rw [wc,arE,hinv,zO]
  rw [hn]
  (have zx:=e1);exact zg
 ·obtain ⟨hk',hget,hr⟩:=Qq hd
  have hw:=Qe (k:=k) (by omega)
  have e1:decide ((k:Int) < (l.length:Int)) = true:=by simp;omega
  have hxz:=hz x (zq hget)
  have hnx:=(z0 x hxz.1 hxz.2.1 hxz.2.2).b
  have hbad:okP YI ltF l (k + 1) = false→wc l = false:=fun h=>by rw [wc,arE,anb h (by omega),zK]
  have hce:=awp (YI x)
  simp only [Qa.v,Qa.cells] at hnx
  rcases hx:YI x with _|_
  ·have hb:okP YI ltF l (k + 1) = false:=by rw [adD,hget];simp [hx]
   rw [hbad hb]
   rw [hx] at hce hnx
   (have zx:=za e1 (za hw (za hce hget)));exact zg
  ·rw [hx] at hce hnx
   rcases k with _|k
   ·have hw0:IntKind.i64.wrap 1 = ((1:Nat):Int):=by decide
    have hg1:okP YI ltF l (0 + 1) = true:=by rw [ana hget,hx]
    have e2:decide (((0:Nat):Int) > 0) = false:=rfl
    (have zx:=za e1 (za e2 (za hw (za hw0 (za hce hget)))));refine zgo ?_;repeat' first|exact zt|apply zan|intro hc
    all_goals exact hL _ 1 (Qd []) ⟨by omega,hg1⟩ (by omega) (zwg [])
   ·have e2:decide (((k + 1:Nat):Int) > 0) = true:=zn (by omega)
    have hw2:IntKind.i64.wrap (((k + 1:Nat):Int) - 1) = (k:Int):=by rw [Jc (by omega) (by omega)];omega
    obtain ⟨y,hgy⟩:∃ y,l[k]? = some y:=⟨_,zd (by omega)⟩
    have hnext:=akh (p:=YI) (q:=ltF) hget hgy
    rw [hinv,hx] at hnext
    have ho:=(z1 y x).b
    simp only [Qa.v,Qa.cells] at ho
    rcases hb:ltF y x with _|_
    ·have e3:decide (ags y x≥0) = true:=by
      rw [ltF,zF] at hb
      exact zn (by omega)
     rw [hbad (by rw [hnext,hb];rfl)]
     generalize ags y x = oo at *
     (have zx:=za e1 (za e2 (za e3 (za hw (za hw2 (za hce (za hget hgy)))))));exact zg
    ·have e3:decide (ags y x≥0) = false:=by
      rw [ltF,decide_eq_true_iff] at hb
      exact zp (by omega)
     have hg2:okP YI ltF l (k + 2) = true:=by rw [hnext,hb];rfl
     generalize ags y x = oo at *
     (have zx:=za e1 (za e2 (za e3 (za hw (za hw2 (za hce (za hget hgy)))))));refine zgo ?_;repeat' first|exact zt|apply zan|intro hc
     all_goals exact hL _ (k + 2) (Qd []) ⟨by omega,hg2⟩ (by omega) (zwg [])
def Y6 (l:List Qa) (gap:Int):Int:=if wc l = true then (if gap < 0∨gap > 4000 then 2 else 0) else 24
theorem avK {α:Type} {p:α→Bool} {q:α→α→Bool} {l:List α} {k i:Nat} {x:α} (h:okP p q l k = true) (hi:i < k) (hx:l[i]? = some x):p x = true:=by
 rw [okP,kN] at h
 have:=h i (Zy.2 hi)
 rw [hx] at this
 simp only [zA] at this
 exact this.1
theorem ajy {l:List Qa} (h:wc l = true):l.length≤400∧∀ x∈l,YI x = true:=by
 rw [wc,zA,decide_eq_true_iff] at h
 refine ⟨by omega,fun x hx=>?_⟩
 obtain ⟨i,hi,rfl⟩:=kK hx
 exact avK h.1 hi (zd hi)
theorem asG {x:Qa} (h:YI x = true):awl x:=by
 simp only [YI,zA,decide_eq_true_iff] at h
 exact ⟨by omega,by omega⟩
theorem aua {l:List Qa} {gap:Int} (h:Y6 l gap = 0):l.length≤400∧∀ x∈l,awl x:=by
 unfold Y6 at h
 split at h
 ·rename_i hn
  exact ⟨(ajy hn).1,fun x hx=>asG ((ajy hn).2 x hx)⟩
 ·cases h
def UK:=qd Proofs.Tryz.f81 []
def jD (Γ:Env) (f:Nat):Prop:=∀ (l:List Qa) (gap:Int) (hl:l.length < 2 ^ 40) (hz:∀ x∈l,x.Sz),EvN Γ f [.sl 11 (l.map Qa.v),V.int gap] (V.int (Y6 l gap))
theorem afj {Γ:Env} {f:Nat} (h:Has Γ.P f 16 UK.1.1.ac UK.1.2) (z0:Ue Γ 134):jD Γ f:=by
 intro l gap hl hz
 refine Qc h zsi zcl zcl fun C hC hm=>?_
 subst hC
 simp only [UK,qd,DC.ac]
 have hn:=(z0 l hl hz).b
 unfold Y6
 rcases hb:wc l with _|_
 ·rw [hb] at hn
  rw [if_neg (by decide)]
  exact zg
 ·rw [hb] at hn
  rw [if_pos rfl]
  by_cases g1:gap < 0
  ·have e1:decide (gap < 0) = true:=zn g1
   rw [if_pos (.inl g1)]
   (have zx:=e1);exact zg
  ·have e1:decide (gap < 0) = false:=zp g1
   by_cases g2:gap > 4000
   ·have e2:decide (gap > 4000) = true:=zn g2
    rw [if_pos (.inr g2)]
    (have zx:=za e1 e2);exact zg
   ·have e2:decide (gap > 4000) = false:=zp g2
    rw [if_neg (by omega)]
    (have zx:=za e1 e2);exact zg
def ltN (x y:Qa):Bool:=decide (ags x y < 0)
def eqN (x y:Qa):Bool:=x.src == y.src && (x.host == y.host && (x.mach == y.mach && (x.day == y.day && (x.conf == y.conf && (x.kind == y.kind && (x.subj == y.subj && (x.alg == y.alg && (x.bits == y.bits && (x.num == y.num && (x.text == y.text))))))))))
def acj (l:List Qa):List Qa:=qR eqN (Wo ltN l)
theorem asi {α:Type} (eq:α→α→Bool) (l:List α):(qR eq l).length≤l.length:=by
 have tl:∀ (l:List α) (p:α),(yg eq p l).length≤l.length:=by
  intro l
  induction l with
  | nil=>intro p;simp [yg]
  | cons x r ih =>
    intro p
    rw [yg]
    split
    ·have:=ih x;simp;omega
    ·have:=ih x;simp;omega
 cases l with
 | nil=>simp [qR]
 | cons x r=>have:=tl r x;simp [qR];omega
theorem akL (l:List Qa):(acj l).length≤l.length:=by
 have:=asi eqN (Wo ltN l);rw [xw] at this;exact this
def Qa.v0:V:=V.agg [V.int 0,V.str [],V.int 0,V.int 0,V.int 0,V.int 0,V.str [],V.int 0,V.int 0,V.int 0,V.str []]
def QZ:=qd Proofs.Tryz.f73 []
def JC (Γ:Env) (f:Nat):Prop:=∀ (l:List Qa) (hl:l.length < 2 ^ 30),EvW Γ f [.sl 11 (l.map Qa.v)] 11 (l.map Qa.v)
theorem WQ {Γ:Env} {f:Nat} (h:Has Γ.P f 8 QZ.1.1.ac QZ.1.2) :JC Γ f:=by
 intro l hl
 refine Xi h (by simp) (by first|exact yf _|exact j9 _|(intro x hx;obtain ⟨y,_,rfl⟩:=kc.1 hx;simp only [Qa.v,Qa.cells,V.noSl,Wi,and_self])) fun C hC hm=>?_
 subst hC
 simp only [QZ,qd,DC.ac]
 have hcl:∀ y∈l.map Qa.v,y.cells.length = 11:=by intro y hy;obtain ⟨z,_,rfl⟩:=kc.1 hy;rfl
 rcases l with _|⟨x,r⟩
 ·repeat' (first|(refine zsk ?_;intro K' hK)|refine zsp ?_|(refine zsc ?_ ?_<;>intro hc<;>first|exact znh|try simp only [znz] at hc)|simp (maxSteps:=1000000) only [go_sem]|(refine hK _ ?_;clear hK K')|apply zan|exact zsq|fail)
  intro t
  rcases t with _|_
  ·repeat' (first|(refine zsk ?_;intro K' hK)|refine zsp ?_|(refine zsc ?_ ?_<;>intro hc<;>first|exact znh|try simp only [znz] at hc)|simp (maxSteps:=1000000) only [go_sem]|(refine hK _ ?_;clear hK K')|apply zan|exact zsq|fail)
   all_goals (refine yK (xs:=[]) _ _ rfl ?_ ?_<;>first|rfl|(simp;done))
  ·repeat' (first|(refine zsk ?_;intro K' hK)|refine zsp ?_|(refine zsc ?_ ?_<;>intro hc<;>first|exact znh|try simp only [znz] at hc)|simp (maxSteps:=1000000) only [go_sem]|(refine hK _ ?_;clear hK K')|apply zan|exact zsq|fail)
   all_goals (refine yK (xs:=[]) _ _ rfl ?_ ?_<;>first|rfl|(simp;done))
 ·repeat' (first|(refine zsk ?_;intro K' hK)|refine zsp ?_|(refine zsc ?_ ?_<;>intro hc<;>first|exact znh|try simp only [znz] at hc)|simp (maxSteps:=1000000) only [go_sem]|(refine hK _ ?_;clear hK K')|apply zan|exact zsq|fail)
  all_goals first
   | rfl
   | exact fun y hy=>hcl y (kp _ hy)
   | (simp only [zb,List.length_cons] at hl ⊢;omega)
   | (refine yK (xs:=Qa.v x :: List.map Qa.v r) _ _ rfl ?_ ?_<;>first|rfl|(simp;done))
def arD (l:List Qa) (k:Nat):St:=QS [(0,.sl 11 (l.map Qa.v)),(8,.sl 11 (l.map Qa.v)),(9,V.int l.length),(10,V.int k)] [] 0
def jV:=qd Proofs.Tryz.f32 []
def qF (Γ:Env) (f:Nat):Prop:=∀ (l:List Qa) (hl:l.length≤12) (hz:∀ x∈l,x.Sz) (hc:∀ x∈l,YI x = true),EvC Γ f [.sl 11 (l.map Qa.v)] (.tup [.sl 11 ((acj l).map Qa.v),V.int 0])
attribute [local go_sem] QS in
theorem ah9 {Γ:Env} {f:Nat} (h:Has Γ.P f 30 jV.1.1.ac jV.1.2) (z0:WO Γ 72) (z4:JC Γ 73) (z5:Jo Γ 74) (z6:UY Γ 75) (z7:Jr Γ 76):qF Γ f:=by
 intro l hl hz hc
 refine Q0 h zsi (by simp only [V.closed,Qb,and_self]) fun C hC hm=>?_
 subst hC
 simp only [jV,qd,DC.ac]
 have hlm:(l.map Qa.v).length = l.length:=zb _
 (have zx:=hlm);refine zgo ?_;repeat' first|exact zt|apply zan|intro hc
 refine Qj (ι:=Nat) (fun k=>k≤l.length) (fun k=>arD l k) (fun k=>l.length - k) 0 (zJ _) (Qd []) (Qh [] (by simp only [go_sem,zwl,arD,hlm]<;>exact zcc) (by simp only [go_sem,zwl,arD]<;>exact zcc) (by simp [arD,Qd]) (by simp [arD]) (by omega)) fun k hk K' hL=>?_
 rcases hd:l.drop k with _|⟨x,r⟩
 ·have hkl:=Qu hd
  have e1:decide ((k:Int) < ((l.length:Nat):Int)) = false:=by simp;omega
  have gW:=z4 l (by omega)
  have gT:=z5 l 75 ags (fun x _ y _=>z6 x y) hl
  have d1:(fun x y:Qa=>decide (ags x y < 0)) = ltN:=rfl
  rw [d1] at gT
  have gC:=z7 (Wo ltN l) (by rw [xw];omega)
  have d2:(fun x y:Qa=>x.src == y.src && (x.host == y.host && (x.mach == y.mach && (x.day == y.day && (x.conf == y.conf && (x.kind == y.kind && (x.subj == y.subj && (x.alg == y.alg && (x.bits == y.bits && (x.num == y.num && (x.text == y.text))))))))))) = eqN:=rfl
  rw [d2] at gC
  have hle:=akL l
  have hle2:(qR eqN (Wo ltN l)).length = (acj l).length:=rfl
  have e2:decide (((qR eqN (Wo ltN l)).length:Int) > 400) = false:=by rw [zF];omega
  have hgl:(Wo ltN l).length = l.length:=xw _ _
  have htk:List.take l.length ((Wo ltN l).map Qa.v) = (Wo ltN l).map Qa.v:=zi (by rw [zb,hgl];omega)
  clear hL
  simp only [arD]
  (have zx:=za e1 (za e2 (za hlm htk)));refine zgo ?_;repeat' first|exact zt|apply zan|intro hc
  all_goals
   refine Qg _ rfl ?_;simp only [go_sem]
   rw [acj,ZL (by simp),zi (by simp)]
   first|done|exact ⟨⟨_,_,rfl⟩,trivial⟩
 obtain ⟨hk',hget,hr⟩:=Qq hd
 have hw:=Qe (k:=k) (by omega)
 have e1:decide ((k:Int) < ((l.length:Nat):Int)) = true:=by simp;omega
 have hx:=zq hget
 have vx:(l.map Qa.v)[k]? = some x.v:=by rw [zo,hget];rfl
 obtain ⟨z1,z2,z3⟩:=hz x hx
 have gK:=(z0 x z1 z2 z3).b
 rw [hc x hx] at gK
 simp only [Qa.v,Qa.cells] at vx gK
 simp only [arD]
 (have zx:=za e1 (za hw vx));refine zgo ?_;repeat' first|exact zt|apply zan|intro hc
 all_goals exact hL _ (k + 1) (Qd []) (by omega) (by omega) (Qh [] (by simp only [go_sem,zwl,arD]<;>exact zcc) (by simp only [go_sem,zwl,arD]<;>exact zcc) (by simp [arD,Qd]) (by simp [arD]) (by omega))
def fnv (l:List Qa):V:=.sl 11 (l.map Qa.v)
def ak7 (ls:List (List Qa)) (k:Nat):Nat:=(ls.take k).flatten.length
theorem ak6 {ls:List (List Qa)} {k:Nat} {f:List Qa} (h:ls[k]? = some f):ak7 ls (k + 1) = ak7 ls k + f.length:=by
 simp [ak7,zB,h]
theorem aqP (ls:List (List Qa)) (k:Nat):ak7 ls k≤ls.flatten.length:=by
 have h:ls.flatten = (ls.take k).flatten++(ls.drop k).flatten:=by rw [← List.flatten_append,kh]
 rw [ak7,h,zv];omega
def ccN (ls:List (List Qa)) (k:Nat):St:=QS [(6,.hd 0 0 (ak7 ls k)),(25,.sl 1 (ls.map fnv)),(26,V.int ls.length),(27,V.int k)] [(0,.buf true 11 ((ls.take k).flatten.map Qa.v))] 1
def YJ (Γ:Env) (f:Nat):Prop:=∀ (n:Nat) (hn:n < 2 ^ 30),EvW Γ f [.sc (.slice none 0 0),V.int n] 11 ([]:List V)
def QX:=qd Proofs.Tryz.f33 []
def Jy (Γ:Env) (f:Nat):Prop:=∀ (ls:List (List Qa)) (hn:ls.length < 2 ^ 30) (ht:ls.flatten.length < 2 ^ 30),EvW Γ f [.sl 1 (ls.map fnv)] 11 (ls.flatten.map Qa.v)
attribute [local go_sem] QS in
theorem WJ {Γ:Env} {f:Nat} (h:Has Γ.P f 36 QX.1.1.ac QX.1.2) (z0:YJ Γ 77):Jy Γ f:=by
 intro ls hn ht
 refine Xi h (by simp) (by first|exact yf _|exact j9 _|(intro x hx;obtain ⟨y,_,rfl⟩:=kc.1 hx;simp only [Qa.v,Qa.cells,V.noSl,Wi,and_self])) fun C hC hm=>?_
 subst hC
 simp only [QX,qd,DC.ac]
 have hal:(ls.map fnv).length = ls.length:=zb _
 (have zx:=hal);refine zgo ?_;repeat' first|exact zt|apply zan|intro hc
 refine Ji (ι:=Nat) (fun k=>k≤ls.length) (fun k=>[(3,V.int (ak7 ls k)),(11,V.int k)]) (fun k=>ls.length - k) 0 (by omega) (zJ _) zol zlt (by simp only [Nat.reduceAdd,ovT,Xs,Nat.reduceEqDiff,reduceIte,KA,xA,aqC,u32,u33,u34,u35,u36,u37,u38,u39,and_self,and_true,true_and];simp [ak7]) fun k hk K' hL=>?_
 simp only [ovT,Xs,Nat.reduceEqDiff,reduceIte]
 rcases hdr:ls.drop k with _|⟨f,r⟩
 rotate_left
 ·obtain ⟨hk',hget,hr⟩:=Qq hdr
  have hw:=Qe (k:=k) (by omega)
  have e1:decide ((k:Int) < (ls.length:Int)) = true:=by simp;omega
  have vf:(ls.map fnv)[k]? = some (.sl 11 (f.map Qa.v)):=by rw [zo,hget];rfl
  have hfl:(f.map Qa.v).length = f.length:=zb _
  have hsu:=ak6 hget
  have hle:=aqP ls (k + 1)
  have hw2:IntKind.i64.wrap (((ak7 ls k:Nat):Int) + ((f.length:Nat):Int)) = ((ak7 ls (k + 1):Nat):Int):=by rw [Jc (by omega) (by omega),hsu];simp
  have e2:decide (((ak7 ls (k + 1):Nat):Int) < 0) = false:=by simp
  (have zx:=za e1 (za e2 (za hal (za hw (za hw2 (za vf hfl))))));refine zgo ?_;repeat' first|exact zt|apply zan|intro hc
  all_goals exact hL _ (k + 1) zet (by omega) (by omega) zoe
 have hkl:=Qu hdr
 have e1:decide ((k:Int) < (ls.length:Int)) = false:=by simp;omega
 obtain rfl:k = ls.length:=by omega
 have htt:ak7 ls ls.length = ls.flatten.length:=by rw [ak7,zG]
 have gW:=z0 (ak7 ls ls.length) (by omega)
 clear hL
 (have zx:=za e1 hal);refine zgo ?_;repeat' first|exact zt|apply zan|intro hc
 refine Qj (ι:=Nat) (fun k=>k≤ls.length) (fun k=>ccN ls k) (fun k=>ls.length - k) 0 (zJ _) (Qd [(0,7000)]) (Qh [(0,7000)] (by simp only [go_sem,zwl,ccN,ak7,List.take_zero,List.flatten_nil,List.length_nil,hal]<;>exact zcc) (by simp only [go_sem,zwl,ccN,List.take_zero,List.flatten_nil,zH]<;>exact zcc) (by simp [ccN,Qd]) (by simp [ccN];omega) (by omega)) fun k hk K' hL=>?_
 rcases hdr:ls.drop k with _|⟨f,r⟩
 ·have hkl:=Qu hdr
  have e1:decide ((k:Int) < (ls.length:Int)) = false:=by simp;omega
  obtain rfl:k = ls.length:=by omega
  have htk:ls.take ls.length = ls:=zG
  simp only [ccN,htk,htt]
  have htl:List.take ls.flatten.length (ls.flatten.map Qa.v) = ls.flatten.map Qa.v:=zi (by rw [zb];exact zj _)
  have hmm:ls.flatten.length = (ls.flatten.map Qa.v).length:=(zb _).symm
  (have zx:=za e1 htl);refine zgo ?_;repeat' first|exact zt|apply zan|intro hc
  all_goals first|(refine yK (xs:=ls.flatten.map Qa.v) _ _ rfl ?_ ?_<;>first|exact hmm|exact hmm.symm|rfl|(simp;done))
 obtain ⟨hk',hget,hr⟩:=Qq hdr
 have hw:=Qe (k:=k) (by omega)
 have e1:decide ((k:Int) < (ls.length:Int)) = true:=by simp;omega
 have vf:(ls.map fnv)[k]? = some (.sl 11 (f.map Qa.v)):=by rw [zo,hget];rfl
 have hfl:(f.map Qa.v).length = f.length:=zb _
 have hsu:=ak6 hget
 have hle:=aqP ls (k + 1)
 have hnx:(ls.take (k + 1)).flatten = (ls.take k).flatten++f:=by simp [zB,hget]
 have hol:((ls.take k).flatten.map Qa.v).length = ak7 ls k:=by rw [zb];rfl
 have htl:List.take (ak7 ls k) ((ls.take k).flatten.map Qa.v) = (ls.take k).flatten.map Qa.v:=zi (by omega)
 have hcl:∀ y∈f.map Qa.v,y.cells.length = 11:=by intro y hy;obtain ⟨z,_,rfl⟩:=kc.1 hy;rfl
 simp only [ccN]
 (have zx:=za e1 (za hw (za vf (za hfl (za hol htl)))));refine zgo ?_;repeat' first|exact zt|apply zan|intro hc
 all_goals exact hL _ (k + 1) (Qd [(0,6001)]) (by omega) (by omega) (Qh [(0,6001)] (by simp only [go_sem,zwl,ccN,hsu,hal]<;>exact zcc) (by simp only [go_sem,zwl,ccN,hnx,kj]<;>exact zcc) (by simp [ccN,Qd]) (by simp [ccN];omega) (by omega))
def KO:=qd Proofs.Tryz.f12 []
def yx (Γ:Env) (f:Nat):Prop:=∀ (a b:List Qa) (hl:a.length + b.length≤12) (hz:∀ x∈a++b,x.Sz) (hc:∀ x∈a++b,YI x = true),EvC Γ f [.sl 11 (a.map Qa.v),.sl 11 (b.map Qa.v)] (.tup [.sl 11 ((acj (a++b)).map Qa.v),V.int 0])
theorem agI {Γ:Env} {f:Nat} (h:Has Γ.P f 13 KO.1.1.ac KO.1.2) (z0:Jy Γ 33) (z1:qF Γ 32):yx Γ f:=by
 intro a b hl hz hc
 refine Q0 h zsi (by simp only [V.closed,Qb,and_self]) fun C hC hm=>?_
 subst hC
 simp only [KO,qd,DC.ac]
 have gW:=z0 [a,b] (by simp) (by simp;omega)
 have gN:=z1 (a++b) (by simp;omega) hz hc
 have e1:[a,b].flatten = a++b:=by simp
 rw [e1] at gW
 have htk:List.take ((a++b).map Qa.v).length ((a++b).map Qa.v) = (a++b).map Qa.v:=zG
 simp only [zE,zH,fnv] at gW
 repeat' (first|(refine zsk ?_;intro K' hK)|refine zsp ?_|(refine zsc ?_ ?_<;>intro hc<;>first|exact znh|try simp only [znz] at hc)|simp (maxSteps:=1000000) only [go_sem,htk]|(refine hK _ ?_;clear hK K')|apply zan|(apply ajZ;(focus first|exact gN))|(apply K0;(focus first|exact gW|exact (z0 _ zsd zsd)))|(apply QA;(focus first|exact (z1 _ zsd zsd zsd).b))|exact zsq|fail)
 all_goals first|exact zr|exact trivial|exact fun h=>V.noConfusion h
def QL (p:List Nat):List V:=p.map fun n:Nat=>V.int (n:Int)
structure PW (p:List Nat):Prop where
 len:p.length = 400
 le:∀ i j:Nat,p[i]? = some j→j≤i
theorem X7 (p:List Nat):(QL p).length = p.length:=by simp [QL]
theorem Uw {p:List Nat} {i j:Nat} (h:p[i]? = some j):(QL p)[i]? = some (V.int j):=by simp [QL,h]
theorem XH (p:List Nat):Qb (QL p):=by
 unfold QL
 induction p with
 | nil=>trivial
 | cons x r ih=>exact ⟨trivial,ih⟩
theorem QH (τ:Nat→Nat) (p:List Nat):Ks τ (QL p) = QL p:=Qy _ _ (XH p)
theorem Q6 (n:Nat) (p:List Nat):ltL n (QL p):=YG _ _ (XH p)
theorem ahC (p:List Nat) (i j:Nat):(QL p).set i (V.int j) = QL (p.set i j):=by simp [QL,Zt]
theorem alt {p:List Nat} {i:Nat} (h:i < p.length) (j:Nat):List.take i (QL p)++[V.int (j:Int)]++List.drop (i + 1) (QL p) = QL (p.set i j):=by
 rw [← ahC,List.set_eq_take_append_cons_drop,if_pos (by rw [X7];exact h),kq];rfl
theorem PW.get {p:List Nat} (h:PW p) {i:Nat} (hi:i < 400):∃ j,p[i]? = some j∧j≤i:=by
 have:i < p.length:=by rw [h.len];exact hi
 exact ⟨p[i],zd this,h.le i _ (zd this)⟩
theorem PW.set {p:List Nat} (h:PW p) {i j:Nat} (hj:j≤i):PW (p.set i j):=⟨by rw [zN];exact h.len,fun a b e=>by
 rw [kr] at e
 split at e
 ·split at e
  ·rename_i e1 _;cases e;rw [← e1];exact hj
  ·cases e
 ·exact h.le a b e⟩
def ali (p:List Nat):Nat→Nat→Nat
 | 0,i=>i
 | n + 1,i=>match p[i]? with
   | some j=>if j = i then i else ali p n j
   | none=>i
def Ut (p:List Nat) (i:Nat):Nat:=ali p (i + 1) i
theorem ajp {p:List Nat} (h:PW p):∀ (n i m:Nat),i < n→i < m→ali p n i = ali p m i
 | 0,i,m,h1,_=>absurd h1 (ZD _)
 | n + 1,i,0,_,h2=>absurd h2 (ZD _)
 | n + 1,i,m + 1,h1,h2=>by
   simp only [ali]
   rcases e:p[i]? with _|j
   ·rfl
   ·simp only
    split
    ·rfl
    ·rename_i hne
     have:=h.le i j e
     exact ajp h n j m (by omega) (by omega)
theorem abT {p:List Nat} (h:PW p) {i j:Nat} (e:p[i]? = some j):Ut p i = if j = i then i else Ut p j:=by
 rw [Ut,ali,e]
 simp only
 split
 ·rfl
 ·rename_i hne
  have:=h.le i j e
  exact ajp h _ _ _ (by omega) (by omega)
theorem aha {p:List Nat} (h:PW p):∀ i,Ut p i≤i:=by
 intro i
 induction i using Nat.strongRecOn with
 | _ i ih =>
   rcases e:p[i]? with _|j
   ·rw [Ut,ali,e];exact zj _
   ·rw [abT h e]
    have:=h.le i j e
    split
    ·exact zj _
    ·rename_i hne
     have:=ih j (by omega)
     omega
def YZ:=qd Proofs.Tryz.f83 []
def YQ (Γ:Env) (f:Nat):Prop:=∀ (p:List Nat) (i:Nat) (hp:PW p) (hi:i < 400),EvD Γ f [V.int i] (QL p) (V.int (Ut p i)) (QL p)
attribute [local go_sem] ZS kH QS in
theorem w9 {Γ:Env} {f:Nat} (h:Has Γ.P f 18 YZ.1.1.ac YZ.1.2) :YQ Γ f:=by
 intro p i hp hi
 refine JL h zsi (by first|exact XH _|simp only [V.closed,Qb,and_self]) zc3 zc3 fun C hC hm=>?_
 subst hC
 simp only [YZ,qd,DC.ac]
 have hpc:=X7 p
 have hl4:=hp.len
 refine zgo ?_;repeat' first|exact zt|apply zan|intro hc
 refine Qj (ι:=Nat) (fun k=>k≤i∧Ut p k = Ut p i) (fun k=>QS [(0,.ptr 0 0),(1,V.int k)] [(0,.box true (QL p))] 1) (fun k=>k) i ⟨zj _,rfl⟩ (Qd []) (Qh [] zwa (by simp only [go_sem,zwl,QH,Q6]<;>exact zcc) (by simp) (by simp) (by omega)) fun k hk K' hL=>?_
 obtain ⟨hk,hinv⟩:=hk
 obtain ⟨j,hg,hj⟩:=hp.get (i:=k) (by omega)
 have hgc:=Uw hg
 have hst:=abT hp hg
 rw [hinv] at hst
 have e0:decide ((0:Int)≤(k:Int)) = true:=by simp
 by_cases hjk:j = k
 ·subst hjk
  rw [if_pos rfl] at hst
  rw [hst]
  have e1:((j:Int) != (j:Int)) = false:=by simp
  (have zx:=za hgc (za hpc (za hl4 e1)));refine zgo ?_;repeat' first|exact zt|apply zan|intro hc
  all_goals (refine J0 _ rfl rfl (XH p) ?_;simp only [go_sem];done)
 ·rw [if_neg hjk] at hst
  have e1:((j:Int) != (k:Int)) = true:=by simp;omega
  (have zx:=za hgc (za hpc (za hl4 e1)));refine zgo ?_;repeat' first|exact zt|apply zan|intro hc
  all_goals exact hL _ j (Qd []) ⟨by omega,hst.symm⟩ (by omega) (Qh [] zwa (by simp only [go_sem,zwl,QH,Q6]<;>exact zcc) (by simp) (by simp) (by omega))
def apQ (p:List Nat) (i k:Nat):List Nat:=p.set (max (Ut p i) (Ut p k)) (min (Ut p i) (Ut p k))
theorem akp {p:List Nat} (h:PW p) (i k:Nat):PW (apQ p i k):=h.set (by omega)
theorem axy (a b:Nat):(if (a:Int) < (b:Int) then (b:Int) else (a:Int)) = ((max a b:Nat):Int):=by
 split<;>omega
theorem axw (a b:Nat):(if (b:Int) < (a:Int) then (b:Int) else (a:Int)) = ((min a b:Nat):Int):=by
 split<;>omega
def Y0:=qd Proofs.Tryz.f162 []
def XT (Γ:Env) (f:Nat):Prop:=∀ (p:List Nat) (i k:Nat) (hp:PW p) (hi:i < 400) (hk:k < 400),EvD Γ f [V.int i,V.int k] (QL p) (.tup []) (QL (apQ p i k))
attribute [local go_sem] ZS kH in
theorem vg {Γ:Env} {f:Nat} (h:Has Γ.P f 23 Y0.1.1.ac Y0.1.2) (z0:YQ Γ 83):XT Γ f:=by
 intro p i k hp hi hk
 refine JL h zsi (by first|exact XH _|simp only [V.closed,Qb,and_self]) zc3 zc3 fun C hC hm=>?_
 subst hC
 simp only [Y0,qd,DC.ac]
 have n1:=z0 p i hp hi
 have n2:=z0 p k hp hk
 have r1:=aha hp i
 have r2:=aha hp k
 have hpc:=X7 p
 have hl4:=hp.len
 unfold apQ
 generalize Ut p i = a at *
 generalize Ut p k = b at *
 have m1:=axy a b
 have m2:=axw a b
 have m3:max a b < 400:=by omega
 have hs:=alt (p:=p) (i:=max a b) (by omega) (min a b)
 (have zx:=za hpc (za hl4 (za m1 (za m2 hs))));refine zgo ?_;repeat' first|exact zt|apply zan|intro hc
 all_goals (refine J0 _ rfl rfl (XH _) ?_;simp only [go_sem];done)
def auV (k:Int):List Int→Nat→Option Nat
 | [],_=>none
 | e :: r,i=>if k = e then some i else auV k r (i + 1)
theorem ajK (k:Int):∀ (ks:List Int) (i:Nat),XI false [0] (V.int k) (ks.map V.int) i = some (auV k ks i)
 | [],_=>rfl
 | e :: r,i=>by
   have h:xB false [0] (V.int k) (V.int e) = some (k == e):=by simp [xB,Yk]
   rw [zE,XI,h]
   by_cases hk:k = e
   ·subst hk;simp [auV]
   ·have:(k == e) = false:=by simpa using hk
    rw [this];simp only [auV,if_neg hk]
    exact ajK k r (i + 1)
theorem ar4 {k:Int}:∀ {ks:List Int} {i a:Nat},auV k ks i = some a→i≤a∧a < i + ks.length
 | [],_,_,h=>by cases h
 | e :: r,i,a,h=>by
   rw [auV] at h
   split at h
   ·cases h;simp
   ·have:=ar4 h
    simp only [List.length_cons];omega
theorem aik (k:Int):xB false [0] (V.int k) (V.int k) = some true:=by simp [xB,Yk]
structure JS where
 p:List Nat
 ks:List Int
 vs:List Nat
 loose:Int
structure JW (k:Nat) (s:JS):Prop where
 pw:PW s.p
 len:s.ks.length = s.vs.length
 vlt:∀ v∈s.vs,v < k
 lo:s.loose = -1∨(0≤s.loose∧s.loose < (k:Int))
def arH (l:List Qa) (f:Qa) (gap loose:Int):Bool :=
 decide (loose≥0) && match l[loose.toNat]? with
  | some g=>g.host == f.host && decide (amk f g≤gap)
  | none=>false
def apP (l:List Qa) (gap:Int) (s:JS) (i:Nat) (f:Qa):JS :=
 if f.mach = 0 then
  if akk l f gap≥0 then { s with p:=apQ s.p i (akk l f gap).toNat }
  else { s with p:=if arH l f gap s.loose = true then apQ s.p i s.loose.toNat else s.p,loose:=i }
 else match auV f.mach s.ks 0 with
  | some a=>{ s with p:=apQ s.p i (s.vs.getD a 0),vs:=s.vs.set a i }
  | none=>{ s with ks:=s.ks++[f.mach],vs:=s.vs++[i] }
def wA (l:List Qa) (gap:Int):Nat→JS
 | 0=>⟨List.range 400,[],[],-1⟩
 | k + 1=>match l[k]? with
   | some f=>apP l gap (wA l gap k) k f
   | none=>wA l gap k
def apR (l:List Qa) (gap:Int):List Nat:=(wA l gap l.length).p
theorem ate:PW (List.range 400):=⟨ZH,fun i j h=>by
 obtain ⟨h1,h2⟩:=zl.1 h
 rw [List.getElem_range] at h2;omega⟩
theorem arI (l:List Qa) (f:Qa) (gap:Int):akk l f gap = -1∨(0≤akk l f gap∧akk l f gap < (l.length:Int)):=aeY l f gap l.length
theorem atL {l:List Qa} {gap:Int} {s:JS} {i:Nat} {f:Qa} (h:JW i s):JW (i + 1) (apP l gap s i f):=by
 obtain ⟨h1,h2,h3,h4⟩:=h
 have h3':∀ v∈s.vs,v < i + 1:=fun v hv=>bd (h3 v hv)
 unfold apP
 split
 ·split
  ·exact ⟨akp h1 _ _,h2,h3',by simp only;omega⟩
  ·refine ⟨?_,h2,h3',.inr (by simp only;omega)⟩
   simp only
   split
   ·exact akp h1 _ _
   ·exact h1
 ·split
  ·refine ⟨akp h1 _ _,by simpa using h2,fun v hv=>?_,by simp only;omega⟩
   rcases Zh hv with hv|hv
   ·exact h3' v hv
   ·omega
  ·refine ⟨h1,by simp [h2],fun v hv=>?_,by simp only;omega⟩
   rcases zP.1 hv with hv|hv
   ·exact h3' v hv
   ·rw [zy.1 hv];omega
theorem ahT (l:List Qa) (gap:Int):∀ k,JW k (wA l gap k)
 | 0=>⟨ate,rfl,by simp [wA],.inl rfl⟩
 | k + 1=>by
   have ih:=ahT l gap k
   rw [wA]
   split
   ·exact atL ih
   ·exact ⟨ih.pw,ih.len,fun v hv=>bd (ih.vlt v hv),by have:=ih.lo;omega⟩
theorem ahc (l:List Qa) (gap:Int):PW (apR l gap):=(ahT l gap l.length).pw
def ipP (k:Nat):List Nat:=(List.range 400).map fun j=>if j < k then j else 0
theorem avx (n i:Nat) (v:Value) (h:i < (axe n v).length):(axe n v)[i] = v:=by simp [axe]
theorem avw (n:Nat) (v:Value):(axe n v).length = n:=List.length_replicate
theorem atM:(axe 400 (.int .i64 0)).map V.ofV = QL (ipP 0):=by
 apply List.ext_getElem
 ·rw [zb,avw,X7,ipP,zb,ZH]
 ·intro i h1 h2;rw [zX,avx];simp only [QL,ipP,zX,ZD,if_false];rfl
theorem arX (k:Nat):(ipP k).length = 400:=by simp [ipP]
theorem avU (k:Nat):(ipP k).set k k = ipP (k + 1):=by
 apply List.ext_getElem
 ·simp [ipP]
 ·intro i h1 h2
  simp only [ipP,List.getElem_set,zX,List.getElem_range]
  split
  ·rename_i e;subst e;simp
  ·rename_i e
   by_cases hi:i < k
   ·rw [if_pos hi,if_pos (by omega)]
   ·rw [if_neg hi,if_neg (by omega)]
theorem avV:ipP 400 = List.range 400:=by
 apply List.ext_getElem
 ·simp [ipP]
 ·intro i h1 h2
  simp only [ipP,zb,ZH] at h1
  simp [ipP,h1]
def jSt (l:List Qa) (gap:Int) (k:Nat) (s:JS):St:=QS [(0,.sl 11 (l.map Qa.v)),(1,V.int gap),(5,.ptr 0 0),(7,.mp 1),(8,V.int s.loose),(26,.sl 11 (l.map Qa.v)),(27,V.int l.length),(28,V.int k)] [(0,.box true (QL s.p)),(1,.map (s.ks.map V.int) (QL s.vs) 0)] 2
theorem vK (p:List Nat) (i:Nat):QL p++[V.int (i:Int)] = QL (p++[i]):=by simp [QL]
theorem ann {l:List Qa} {gap:Int} {k:Nat} {f:Qa} (h:l[k]? = some f):wA l gap (k + 1) = apP l gap (wA l gap k) k f:=by rw [wA,h]
def VQ:=qd Proofs.Tryz.f82 [zhn 22]
def qt (Γ:Env) (f:Nat):Prop:=∀ (l:List Qa) (gap:Int) (hl:l.length≤400) (hd:∀ x∈l,awl x),EvR Γ f [.sl 11 (l.map Qa.v),V.int gap] ((QL (apR l gap)))
attribute [local go_sem] ZS kH Qa.cells Qa.v jSt QS in
theorem ad1 {Γ:Env} {f:Nat} (h:Has Γ.P f 91 VQ.1.1.ac VQ.1.2) (z0:XT Γ 162) (z1:Kc Γ 163) (z2:X3 Γ 164):qt Γ f:=by
 intro l gap hl hd
 refine ac5 h (by simp) (XH _) fun C hC hm=>?_
 subst hC
 simp only [VQ,qd,DC.ac]
 have z4:=atM
 have hpc:=X7
 have hip:=arX
 (have zx:=za z4 (za hpc hip));refine zgo ?_;repeat' first|exact zt|apply zan|intro hc
 refine Qj (ι:=Nat) (fun k=>k≤400) (fun k=>QS [(0,.sl 11 (l.map Qa.v)),(1,V.int gap),(5,.ptr 0 0),(16,V.int k)] [(0,.box true (QL (ipP k)))] 1) (fun k=>400 - k) 0 (zJ _) (Qd [(0,2000)]) (Qh [(0,2000)] zwa (by simp only [go_sem,zwl,QH,Q6]<;>exact zcc) (by simp) (by simp;omega) (by omega)) fun k hk K' hL=>?_
 by_cases hk4:k < 400
 ·have e1:decide ((k:Int) < 400) = true:=zn (by omega)
  have hw:=Qe (k:=k) (by omega)
  have hs:=alt (p:=ipP k) (i:=k) (by rw [arX];exact hk4) k
  rw [avU] at hs
  (have zx:=za e1 (za hw (za hpc (za hip hs))));refine zgo ?_;repeat' first|exact zt|apply zan|intro hc
  all_goals exact hL _ (k + 1) (Qd []) (by omega) (by omega) (Qh [] zwa (by simp only [go_sem,zwl,QH,Q6]<;>exact zcc) (by simp) (by simp) (by omega))
 have e1:decide ((k:Int) < 400) = false:=zp (by omega)
 obtain rfl:k = 400:=by omega
 clear hL
 rw [avV]
 have e0:decide (((400:Nat):Int) < 400) = false:=by decide
 (have zx:=e0);refine zgo ?_;repeat' first|exact zt|apply zan|intro hc
 refine Qj (ι:=Nat) (fun k=>k≤l.length) (fun k=>jSt l gap k (wA l gap k)) (fun k=>l.length - k) 0 (zJ _) (Qd [(1,1001)]) (Qh [(1,1001)] (by simp only [go_sem,zwl,jSt,wA,zb]<;>exact zcc) (by simp only [go_sem,zwl,jSt,wA,QH,Q6]<;>exact zcc) (by simp [jSt,Qd]) (by simp [jSt];omega) (by omega)) fun k hk K' hL=>?_
 have hJ:=ahT l gap k
 rcases hdr:l.drop k with _|⟨g,r⟩
 ·have hkl:=Qu hdr
  have e1:decide ((k:Int) < (l.length:Int)) = false:=by simp;omega
  obtain rfl:k = l.length:=by omega
  have hjf:apR l gap = (wA l gap l.length).p:=rfl
  rw [hjf]
  (have zx:=e1);refine zgo ?_;repeat' first|exact zt|apply zan|intro hc
  all_goals (refine asu _ rfl rfl (XH _);done)
 obtain ⟨hk',hget,hr⟩:=Qq hdr
 have hw:=Qe (k:=k) (by omega)
 have e1:decide ((k:Int) < (l.length:Int)) = true:=by simp;omega
 have hsu:=ann (gap:=gap) hget
 have hgd:=hd g (zq hget)
 generalize wA l gap k = s at *
 obtain ⟨p,ks,vs,lo⟩:=s
 obtain ⟨j1,j2,j3,j4⟩:=hJ
 simp only at j1 j2 j3 j4
 have hgv:l.map Qa.v = l.map Qa.v:=rfl
 simp only [jSt]
 by_cases c1:g.mach = 0
 ·have e2:(g.mach != 0) = false:=by simpa using c1
  have p1:=(z1 l g gap (by omega) hd hgd).b
  rw [apP,if_pos c1] at hsu
  simp only [Qa.v,Qa.cells] at p1
  rcases arI l g gap with c2|⟨c2,c3⟩
  ·rw [if_neg (by omega)] at hsu
   rw [c2] at p1
   have e3:decide ((-1:Int)≥0) = false:=by decide
   rcases hq:arH l g gap lo with _|_
   ·rw [hq,if_neg (by decide)] at hsu
    by_cases c4:lo≥0
    ·obtain ⟨n,rfl⟩:∃ n:Nat,lo = n:=⟨lo.toNat,by omega⟩
     have e4:decide ((n:Int)≥0) = true:=zn (by omega)
     obtain ⟨q,hgq⟩:∃ q,l[n]? = some q:=⟨_,zd (by omega)⟩
     rw [arH,e4,zO,Int.toNat_natCast,hgq] at hq
     simp only at hq
     have p2:=(z2 g q hgd (hd q (zq hgq))).b
     simp only [Qa.v,Qa.cells] at p2
     rcases c5:q.host == g.host with _|_
     ·(have zx:=za e1 (za e2 (za e3 (za e4 (za c5 (za hw (za hget hgq)))))));refine zgo ?_;repeat' first|exact zt|apply zan|intro hc
      all_goals exact hL _ (k + 1) (Qd []) (by omega) (by omega) (by rw [hsu];exact Qh [] (by simp only [go_sem,zwl,jSt,zb]<;>exact zcc) (by simp only [go_sem,zwl,jSt,QH,Q6]<;>exact zcc) (by simp [jSt,Qd]) (by simp [jSt]) (by omega))
     ·rw [c5,zO] at hq
      (have zx:=za e1 (za e2 (za e3 (za e4 (za c5 (za hq (za hw (za hget hgq))))))));refine zgo ?_;repeat' first|exact zt|apply zan|intro hc
      all_goals exact hL _ (k + 1) (Qd []) (by omega) (by omega) (by rw [hsu];exact Qh [] (by simp only [go_sem,zwl,jSt,zb]<;>exact zcc) (by simp only [go_sem,zwl,jSt,QH,Q6]<;>exact zcc) (by simp [jSt,Qd]) (by simp [jSt]) (by omega))
    ·have e4:decide (lo≥0) = false:=zp c4
     (have zx:=za e1 (za e2 (za e3 (za e4 (za hw hget)))));refine zgo ?_;repeat' first|exact zt|apply zan|intro hc
     all_goals exact hL _ (k + 1) (Qd []) (by omega) (by omega) (by rw [hsu];exact Qh [] (by simp only [go_sem,zwl,jSt,zb]<;>exact zcc) (by simp only [go_sem,zwl,jSt,QH,Q6]<;>exact zcc) (by simp [jSt,Qd]) (by simp [jSt]) (by omega))
   ·rw [hq,if_pos rfl] at hsu
    have c4:lo≥0:=by
     rw [arH] at hq
     simp only [zA,zC] at hq
     exact hq.1
    obtain ⟨n,rfl⟩:∃ n:Nat,lo = n:=⟨lo.toNat,by omega⟩
    have e4:decide ((n:Int)≥0) = true:=zn (by omega)
    obtain ⟨q,hgq⟩:∃ q,l[n]? = some q:=⟨_,zd (by omega)⟩
    rw [arH,e4,zO,Int.toNat_natCast,hgq] at hq
    rw [Int.toNat_natCast] at hsu
    simp only [zA] at hq
    obtain ⟨c5,c6⟩:=hq
    have p2:=(z2 g q hgd (hd q (zq hgq))).b
    have n1:=z0 p k n j1 (by omega) (by omega)
    simp only [Qa.v,Qa.cells] at p2
    (have zx:=za e1 (za e2 (za e3 (za e4 (za c5 (za c6 (za hw (za hget hgq))))))));refine zgo ?_;repeat' first|exact zt|apply zan|intro hc
    all_goals exact hL _ (k + 1) (Qd []) (by omega) (by omega) (by rw [hsu];exact Qh [] (by simp only [go_sem,zwl,jSt,zb]<;>exact zcc) (by simp only [go_sem,zwl,jSt,QH,Q6]<;>exact zcc) (by simp [jSt,Qd]) (by simp [jSt]) (by omega))
  ·rw [if_pos c2] at hsu
   obtain ⟨n,hn⟩:∃ n:Nat,akk l g gap = n:=⟨(akk l g gap).toNat,by omega⟩
   rw [hn] at hsu c3 p1
   rw [Int.toNat_natCast] at hsu
   have e3:decide ((n:Int)≥0) = true:=zn (by omega)
   have n1:=z0 p k n j1 (by omega) (by omega)
   (have zx:=za e1 (za e2 (za e3 (za hw hget))));refine zgo ?_;repeat' first|exact zt|apply zan|intro hc
   all_goals exact hL _ (k + 1) (Qd []) (by omega) (by omega) (by rw [hsu];exact Qh [] (by simp only [go_sem,zwl,jSt,zb]<;>exact zcc) (by simp only [go_sem,zwl,jSt,QH,Q6]<;>exact zcc) (by simp [jSt,Qd]) (by simp [jSt]) (by omega))
 ·have e2:(g.mach != 0) = true:=by simpa using c1
  rw [apP,if_neg c1] at hsu
  have hfk:=ajK g.mach ks 0
  have hek:=aik g.mach
  rcases hix:auV g.mach ks 0 with _|a
  ·rw [hix] at hsu hfk
   have hm1:ks.map V.int++[V.int g.mach] = (ks++[g.mach]).map V.int:=by simp
   have hm2:=vK vs k
   (have zx:=za e1 (za e2 (za hw (za hfk (za hek (za hm1 (za hm2 hget)))))));refine zgo ?_;repeat' first|exact zt|apply zan|intro hc
   all_goals exact hL _ (k + 1) (Qd []) (by omega) (by omega) (by rw [hsu];exact Qh [] (by simp only [go_sem,zwl,jSt,zb]<;>exact zcc) (by simp only [go_sem,zwl,jSt,QH,Q6]<;>exact zcc) (by simp [jSt,Qd]) (by simp [jSt]) (by omega))
  ·rw [hix] at hsu hfk
   have ha:=(ar4 hix).2
   obtain ⟨v,hv⟩:∃ v,vs[a]? = some v:=⟨_,zd (by omega)⟩
   have hvk:=j3 v (zq hv)
   have hvd:vs.getD a 0 = v:=by rw [zI,hv];rfl
   simp only [hvd] at hsu
   have hvc:=Uw hv
   have n1:=z0 p k v j1 (by omega) (by omega)
   have hm1:=ahC vs a k
   (have zx:=za e1 (za e2 (za hw (za hfk (za hek (za hm1 (za hvc hget)))))));refine zgo ?_;repeat' first|exact zt|apply zan|intro hc
   all_goals exact hL _ (k + 1) (Qd []) (by omega) (by omega) (by rw [hsu];exact Qh [] (by simp only [go_sem,zwl,jSt,zb]<;>exact zcc) (by simp only [go_sem,zwl,jSt,QH,Q6]<;>exact zcc) (by simp [jSt,Qd]) (by simp [jSt]) (by omega))
end Av
end
section
namespace Av
open Go
section
variable {Γ:Env} {A W:Nat→Bool} {b:Nat} {s:St} {d:Option Nat} {f:FuncId} {acts args:List V} {okf:Option (List Nat)→Prop} {J:St→Prop} {a n sx:Nat} {xs ys:List V} {x:V}
theorem anW (ha:s.o a = some (.buf true sx xs)) (hA:A a = true) (hW:W a = true) (h:EvI Γ f args sx xs ys) (hal:(QI acts).contains a = false) (hd:decide (a < b) = true) (hn:n = xs.length) (hl:((QI acts).all fun x=>A x && W x) = true) (hc:Qw (Yd A s.o) (some (QI acts)) acts)
  (hk:J { t:=(s.put d (.hd b 0 ys.length)).t,o:=upd (upd (wV (some (QI acts)) [a] s.o) b (some (.buf true sx ys))) a (some .dead),n:=s.n }):ai4 Γ A W b s d f (.hd a 0 n :: acts) (x :: args) okf J:=by
 intro h1 _
 simp only [Yj,km] at h1
 obtain ⟨_,rfl⟩:=h1
 subst hn
 have hal':a ∉ QI acts:=by simpa using hal
 have hra:Yd A s.o a = some (.buf true sx xs):=by rw [vJ,if_pos hA,ha]
 refine ⟨_,_,_,_,[a],some (QI acts),h.ev,⟨?_,JM _ [a] _ (fun y hy=>?_) acts hc⟩,⟨⟨_,hra,rfl,rfl⟩,trivial⟩,by simp,?_,by simp,by simp [KK],fun h=>by simp at h,fun l h x hx=>(by cases h;simpa using kN.1 hl x hx),?_⟩
 ·simp [conv]
 ·intro e
  rw [zy.1 e] at hy
  exact hal' hy
 ·intro y hy
  rw [zy.1 hy]
  exact ⟨zL hd,hW⟩
 ·simp only [YE,Yf,Ob.ren,V.ren,sig]
  exact hk
theorem anV (ha:s.o a = some (.buf true sx xs)) (hA:A a = true) (hW:W a = true) (h:EvX Γ f args sx xs) (hal:(QI acts).contains a = false) (hd:decide (a < b) = true) (hn:n = xs.length) (hl:((QI acts).all fun x=>A x && W x) = true) (hc:Qw (Yd A s.o) (some (QI acts)) acts)
  (hk:J { t:=(s.put d (.hd a 0 n)).t,o:=upd (wV (some (QI acts)) [a] s.o) a (some (.buf true sx xs)),n:=s.n }):ai4 Γ A W b s d f (.hd a 0 n :: acts) (x :: args) okf J:=by
 intro h1 _
 simp only [Yj,km] at h1
 obtain ⟨_,rfl⟩:=h1
 subst hn
 have hal':a ∉ QI acts:=by simpa using hal
 have hra:Yd A s.o a = some (.buf true sx xs):=by rw [vJ,if_pos hA,ha]
 refine ⟨_,_,_,_,[a],some (QI acts),h.ev,⟨?_,JM _ [a] _ (fun y hy=>?_) acts hc⟩,⟨⟨_,hra,rfl,rfl⟩,trivial⟩,by simp,?_,by simp,by simp [KK],fun h=>by simp at h,fun l h x hx=>(by cases h;simpa using kN.1 hl x hx),?_⟩
 ·simp [conv]
 ·intro e
  rw [zy.1 e] at hy
  exact hal' hy
 ·intro y hy
  rw [zy.1 hy]
  exact ⟨zL hd,hW⟩
 ·simp only [YE,Yf,Ob.ren,V.ren,sig]
  exact hk
end
end Av
end
section
set_option linter.unusedSimpArgs false
set_option linter.unusedVariables false
set_option maxRecDepth 10000
set_option maxHeartbeats 4000000
namespace Av
open Go
theorem anU {Γ:Env} {b:Nat} {r:List AO} {s:St} {d:Option Nat} {f:FuncId} {x:V} {g:FK} {off:Nat} {wr:Bool} {cs:List V} {args:List V} {okf:Option (List Nat)→Prop} {K:St→Prop} {a c sz n m:Nat} {xs ys:List V}
  (ha:s.o a = some (.buf true sz xs)) (h:EvZ Γ f args sz xs m ys) (hab:decide (a < b) = true) (hn:n = xs.length) (ho:s.o c = some (.box wr cs)) (hca:decide (c≠a) = true) (hcl:Qb cs)
  (hk:WC Γ (b + KK) r { t:=(s.put d (.hd a 0 m)).t,o:=upd (wV (some [c]) [a] s.o) a (some (.buf true sz ys)),n:=s.n } K):aet Γ b r s d f (.hd a 0 n :: [.clo g [.ptr c off]]) (x :: args) okf K:=by
 have hc:Qw s.o (some [c]) [.clo g [.ptr c off]]:=by
  simp only [Qw,V.shutOk,and_true,okB,zy,true_and]
  grind
 intro h1 _
 simp only [Yj,km] at h1
 obtain ⟨_,rfl⟩:=h1
 subst hn
 refine Jj ⟨_,_,_,_,[a],some [c],h.ev,⟨?_,JM s.o [a] [c] (fun x hx=>by
  have:=zL hca
  simp only [zy] at hx ⊢
  subst hx;exact this) _ hc⟩,⟨⟨_,ha,rfl,rfl⟩,trivial⟩,by simp,?_,by simp,by simp [KK],fun h=>by simp at h,?_⟩
 ·simp [conv]
 ·intro x hx
  simp only [zy] at hx
  subst hx;exact zL hab
 ·simp only [YE,Yf,Ob.ren,V.ren,sig,List.getElem?_cons_zero,Option.getD_some]
  exact hk
end Av
end
section
namespace Av
open Go
structure ayh (Γ:Env) (f:FuncId) (v:V) (sx:Nat) (xs vs ys:List V):Prop where
 ev:Ev Γ f [.hd 0 0 xs.length,v,.hd 1 0 vs.length] [.buf true sx xs,.buf true sx vs] (.hd 2 0 ys.length) [.dead,.buf true sx vs,.buf true sx ys]
section
variable {Γ:Env} {b:Nat} {r:List AO} {s:St} {d:Option Nat} {f:FuncId} {args:List V} {okf:Option (List Nat)→Prop} {K:St→Prop} {a a2 n n2 sx:Nat} {xs vs ys:List V} {i:Int}
theorem aiu (ha:s.o a = some (.buf true sx xs)) (ha2:s.o a2 = some (.buf true sx vs)) (h:ayh Γ f (V.int i) sx xs vs ys) (hd:decide (a≠a2∧a < b∧a2 < b) = true) (hn:n = xs.length) (hn2:n2 = vs.length)
  (hk:WC Γ (b + KK) r { t:=(s.put d (.hd b 0 ys.length)).t,o:=upd (upd (upd s.o b (some (.buf true sx ys))) a2 (some (.buf true sx vs))) a (some .dead),n:=s.n } K):aet Γ b r s d f [.hd a 0 n,V.int i,.hd a2 0 n2] args okf K:=by
 intro _ _
 subst hn;subst hn2
 obtain ⟨e1,e2,e3⟩:=zL hd
 refine Jj ⟨_,_,_,_,[a,a2],some [],h.ev,⟨by simp [conv],by simp [conv],by simp [conv],trivial⟩,⟨⟨_,ha,rfl,rfl⟩,⟨_,ha2,rfl,rfl⟩,trivial⟩,by simpa using e1,?_,by simp,by simp [KK],fun h=>by simp at h,?_⟩
 ·intro y hy
  simp only [zw,zD,or_false] at hy
  rcases hy with rfl|rfl<;>assumption
 ·simp only [YE,Yf,Ob.ren,V.ren,sig,ans]
  exact hk
end
end Av
end
noncomputable section
set_option maxRecDepth 10000
set_option maxHeartbeats 4000000
namespace Av
open Go
attribute [local irreducible] AWp WC wb aai awS awC aeM awQ afz Jk qV aes awR jj awB okR aaf ris
def aqr {α:Type} (lt:α→α→Bool) (l:List α) (x:α):Nat→Nat→Nat→Nat
 | 0,i,_=>i
 | n + 1,i,j=>if i < j then (match l[(i + j) / 2]? with
   | some y=>if lt y x = true then aqr lt l x n ((i + j) / 2 + 1) j else aqr lt l x n i ((i + j) / 2)
   | none=>i) else i
def bsI {α:Type} (lt:α→α→Bool) (l:List α) (x:α):Nat:=aqr lt l x l.length 0 l.length
theorem anR {α:Type} {lt:α→α→Bool} {l:List α} {x:α}:∀ (n i j:Nat),i≤j→j≤l.length→aqr lt l x n i j≤l.length
 | 0,i,j,h1,h2=>by rw [aqr];omega
 | n + 1,i,j,h1,h2=>by
   rw [aqr]
   split
   ·split
    ·split
     ·exact anR n _ _ (by omega) h2
     ·exact anR n _ _ (by omega) (by omega)
    ·omega
   ·omega
theorem amv {α:Type} {lt:α→α→Bool} {l:List α} {x:α}:bsI lt l x≤l.length:=anR _ _ _ (zJ _) (zj _)
theorem ajF {a b:Nat} (h:a + b < 2 ^ 36):IntKind.i64.wrap ((IntKind.u64.wrap (IntKind.i64.wrap ((a:Int) + (b:Int)))).fdiv (2 ^ 1)) = (((a + b) / 2:Nat):Int):=by
 have e1:IntKind.i64.wrap ((a:Int) + (b:Int)) = ((a + b:Nat):Int):=by rw [Jc (by omega) (by omega)];omega
 have e2:IntKind.u64.wrap ((a + b:Nat):Int) = ((a + b:Nat):Int):=by
  unfold IntKind.wrap;simp [IntKind.signed,IntKind.bits];omega
 rw [e1,e2,Int.fdiv_eq_ediv_of_nonneg _ (by decide),show (2:Int) ^ 1 = 2 from rfl,Jc (by omega) (by omega)];omega
def XM:=qd Proofs.Tryz.f217 []
def WY (Γ:Env) (f:Nat):Prop:=∀ (s:List UInt8),EvN Γ f [V.str s] (V.bool false)
theorem aa8 {Γ:Env} {f:Nat} (h:Has Γ.P f 6 XM.1.1.ac XM.1.2) :WY Γ f:=by
 intro s
 refine Qc h zsi zcl zcl fun C hC hm=>?_
 subst hC
 simp only [XM,qd,DC.ac]
 refine zgo ?_;repeat' first|exact zt|apply zan|intro hc
 all_goals first|exact zr|(refine Qg _ rfl ?_;simp only [go_sem];simp;done)
def Vj:=qd Proofs.Tryz.f271 []
def Kl (Γ:Env) (f:Nat):Prop:=∀ (s:List UInt8),EvN Γ f [V.str s] (V.bool false)
theorem ac1 {Γ:Env} {f:Nat} (h:Has Γ.P f 6 Vj.1.1.ac Vj.1.2) :Kl Γ f:=by
 intro s
 refine Qc h zsi zcl zcl fun C hC hm=>?_
 subst hC
 simp only [Vj,qd,DC.ac]
 refine zgo ?_;repeat' first|exact zt|apply zan|intro hc
 all_goals first|exact zr|(refine Qg _ rfl ?_;simp only [go_sem];simp;done)
def V6:=qd Proofs.Tryz.f216 []
def qK (Γ:Env) (f:Nat):Prop:=∀ (a b:List UInt8),EvN Γ f [V.str a,V.str b] (V.bool (Op.bytesLess a b))
theorem aeh {Γ:Env} {f:Nat} (h:Has Γ.P f 17 V6.1.1.ac V6.1.2) (z0:Kl Γ 271):qK Γ f:=by
 intro a b
 refine Qc h zsi zcl zcl fun C hC hm=>?_
 subst hC
 simp only [V6,qd,DC.ac]
 have p1:=(z0 a).b
 exact zg
def Ux {α:Type} [BEq α] (l:List α) (i:Nat) (x:α):Bool:=match l[i]? with|some y=>y == x|none=>false
def Jf:=qd Proofs.Tryz.f165 []
def JZ (Γ:Env) (f:Nat):Prop:=∀ (l:List (List UInt8)) (x:List UInt8) (hl:l.length < 2 ^ 34),EvN Γ f [.sl 1 (l.map V.str),V.str x] (.tup [V.int (bsI Op.bytesLess l x:Nat),V.bool (Ux l (bsI Op.bytesLess l x) x)])
attribute [local go_sem] QS in
theorem VC {Γ:Env} {f:Nat} (h:Has Γ.P f 54 Jf.1.1.ac Jf.1.2) (z0:qK Γ 216) (z1:WY Γ 217):JZ Γ f:=by
 intro l x hl
 refine Qc h zsi zcl zcl fun C hC hm=>?_
 subst hC
 simp only [Jf,qd,DC.ac]
 refine zgo ?_;repeat' first|exact zt|apply zan|intro hc
 refine Qj (ι:=Nat×Nat×Nat) (fun q=>q.2.1≤q.2.2∧q.2.2≤l.length∧q.2.2 - q.2.1≤q.1∧aqr Op.bytesLess l x q.1 q.2.1 q.2.2 = bsI Op.bytesLess l x) (fun q=>QS [(0,.sl 1 (l.map V.str)),(1,V.str x),(6,V.int l.length),(7,V.int q.2.1),(8,V.int q.2.2)] [] 0) (fun q=>q.2.2 - q.2.1) (l.length,0,l.length) ⟨zJ _,zj _,by simp,rfl⟩ (Qd []) (Qh [] (by simp only [go_sem,zwl,zb]<;>exact zcc) zwa (by simp) (by simp) (by omega)) fun q hq K' hL=>?_
 obtain ⟨n,i,j⟩:=q
 simp only at hq hL ⊢
 obtain ⟨h1,h2,h3,h4⟩:=hq
 have hb:bsI Op.bytesLess l x≤l.length:=amv
 by_cases hij:i < j
 ·obtain ⟨n,rfl⟩:∃ m,n = m + 1:=⟨n - 1,by omega⟩
  have e1:decide ((i:Int) < (j:Int)) = true:=zn (by omega)
  have hh:=ajF (a:=i) (b:=j) (by omega)
  rw [aqr,if_pos hij] at h4
  have r1:i≤(i + j) / 2:=by omega
  have r2:(i + j) / 2 < j:=by omega
  generalize (i + j) / 2 = r at *
  obtain ⟨y,hy⟩:∃ y,l[r]? = some y:=⟨_,zd (by omega)⟩
  rw [hy] at h4
  simp only at h4
  have p1:=(z0 y x).b
  have hwr:=Qe (k:=r) (by omega)
  rcases hlt:Op.bytesLess y x with _|_
  ·rw [hlt] at p1 h4
   rw [if_neg (by decide)] at h4
   (have zx:=za e1 (za hh (za hwr hy)));refine zgo ?_;repeat' first|exact zt|apply zan|intro hc
   all_goals exact hL _ (n,i,r) (Qd []) ⟨by simp only;omega,by simp only;omega,by simp only;omega,h4⟩ (by simp only;omega) (zwg [])
  ·rw [hlt] at p1 h4
   rw [if_pos rfl] at h4
   (have zx:=za e1 (za hh (za hwr hy)));refine zgo ?_;repeat' first|exact zt|apply zan|intro hc
   all_goals exact hL _ (n,r + 1,j) (Qd []) ⟨by simp only;omega,by simp only;omega,by simp only;omega,h4⟩ (by simp only;omega) (zwg [])
 ·have e1:decide ((i:Int) < (j:Int)) = false:=zp (by omega)
  have hbi:bsI Op.bytesLess l x = i:=by
   rw [← h4]
   rcases n with _|n
   ·rfl
   ·rw [aqr,if_neg hij]
  rw [hbi]
  by_cases hil:i < l.length
  ·have e2:decide ((i:Int) < (l.length:Int)) = true:=zn (by omega)
   obtain ⟨y,hy⟩:∃ y,l[i]? = some y:=⟨_,zd hil⟩
   have hf:Ux l i x = (y == x):=by simp only [Ux,hy]
   have p2:=(z1 y).b
   rw [hf]
   rcases hyx:y == x with _|_
   ·(have zx:=za e1 (za e2 (za hyx hy)));exact zg
   ·(have zx:=za e1 (za e2 (za hyx hy)));exact zg
  ·have e2:decide ((i:Int) < (l.length:Int)) = false:=zp (by omega)
   have hf:Ux l i x = false:=by rw [Ux,ki (by omega)]
   rw [hf]
   (have zx:=za e1 e2);exact zg
def ltJ (x y:Int):Bool:=decide (x < y)
def ae5 {α:Type} [BEq α] (lt:α→α→Bool) (l:List α) (x:α):List α :=
 if Ux l (bsI lt l x) x = true then l else l.take (bsI lt l x)++x :: l.drop (bsI lt l x)
def XX (Γ:Env) (f:Nat):Prop:=((∀ (xs:List (List UInt8)) (i:Nat) (x:List UInt8),i≤xs.length→0 < xs.length→xs.length < 2 ^ 30→ayh Γ f (V.int i) 1 (xs.map V.str) [V.str x] ((xs.take i++x :: xs.drop i).map V.str))∧(∀ x:List UInt8,EvW Γ f [af5,V.int 0,.sl 1 [V.str x]] 1 [V.str x]))
def JJ:=qd Proofs.Tryz.f84 []
def XU (Γ:Env) (f:Nat):Prop:=((∀ (xs:List (List UInt8)) (x:List UInt8),0 < xs.length→xs.length < 2 ^ 30→Ux xs (bsI Op.bytesLess xs x) x = true→EvX Γ f [V.str x] 1 (xs.map V.str))∧(∀ (xs:List (List UInt8)) (x:List UInt8),0 < xs.length→xs.length < 2 ^ 30→Ux xs (bsI Op.bytesLess xs x) x = false→EvI Γ f [V.str x] 1 (xs.map V.str) ((ae5 Op.bytesLess xs x).map V.str))∧(∀ x:List UInt8,EvW Γ f [af5,V.str x] 1 [V.str x]))
theorem vh {Γ:Env} {f:Nat} (h:Has Γ.P f 20 JJ.1.1.ac JJ.1.2) (z0:JZ Γ 165) (z1:XX Γ 166):XU Γ f:=by
 obtain ⟨hI,hW⟩:=z1
 refine ⟨fun xs x h0 hl hf=>?_,fun xs x h0 hl hf=>?_,fun x=>?_⟩
 ·refine ac4 h (by simp) fun C hC hm=>?_
  subst hC
  simp only [JJ,qd,DC.ac]
  have hb:=(z0 xs x (by omega)).b
  rw [hf] at hb
  have ht:List.take (xs.map V.str).length (xs.map V.str) = xs.map V.str:=zG
  (have zx:=ht);refine zgo ?_;repeat' first|exact zt|apply zan|intro hc
  all_goals first|(refine ast _ rfl rfl rfl ?_;first|rfl|(simp;done))
 ·refine aih h (by simp) fun C hC hm=>?_
  subst hC
  simp only [JJ,qd,DC.ac]
  have hb:=(z0 xs x (by omega)).b
  have hi:=hI xs (bsI Op.bytesLess xs x) x amv h0 hl
  rw [ae5,if_neg (by rw [hf];decide)]
  rw [hf] at hb
  have ht:List.take (xs.map V.str).length (xs.map V.str) = xs.map V.str:=zG
  generalize bsI Op.bytesLess xs x = i at *
  repeat' (first|(refine zsk ?_;intro K' hK)|refine zsp ?_|(refine zsc ?_ ?_<;>intro hc<;>first|exact znh|try simp only [znz] at hc)|simp (maxSteps:=1000000) only [go_sem,ht]|(refine hK _ ?_;clear hK K')|apply zan|(apply amC;(focus exact rfl);(focus first|exact hi);(focus exact rfl);(focus exact rfl);(focus (first|exact rfl|(simp;done))))|(apply aiu;(focus exact rfl);(focus exact rfl);(focus first|exact hi);(focus exact rfl);(focus (first|exact rfl|(simp;done)));(focus (first|exact rfl|(simp;done))))|(apply QA;(focus first|exact hb|exact (z0 _ _ zsd).b))|exact zsq|fail)
  all_goals first|(refine au4 _ _ rfl ⟨_,rfl⟩ rfl (by omega) rfl ?_;first|rfl|(simp;done))
 ·refine Xi h (by simp) (by intro y hy;rw [zy.1 hy];simp only [V.noSl]) fun C hC hm=>?_
  subst hC
  simp only [JJ,qd,DC.ac]
  have hb:=(z0 [] x (by simp)).b
  have hw:=hW x
  simp only [zH] at hb
  have hb:=hb.le2 (LeV.nil 1) (LeV.refl _)
  refine zgo ?_;repeat' first|exact zt|apply zan|intro hc
  all_goals first|(refine yK (xs:=[V.str x]) _ _ rfl ?_ ?_<;>first|rfl|(simp;done))
end Av
end
