/- W29 -/
import Derived.Test.YtlpaikjhphkioaaGreatW28
import Derived.Test.YtlpaikjhphkioaaGreatW12
set_option linter.unusedVariables false
set_option linter.unusedSimpArgs false
noncomputable section
set_option maxRecDepth 10000
set_option maxHeartbeats 4000000
namespace Av
open Go
attribute [local irreducible] AWp Vy K7 jE awS awC aaG awQ abg QW Uc vZ awR Uj awB okR jt ris
def aaO (out:List Qa) (x:Qa):List Qa:=if al3 out x = true then out else ab3 out x
def J8 (l:List Qa):List Qa:=l.foldl aaO []
theorem aip (l:List Qa) (x:Qa):(ab3 l x).length = l.length + 1:=by
 have:=ag9 l x l.length
 simp [ab3];omega
theorem aft (l:List Qa) (x:Qa):(aaO l x).length≤l.length + 1:=by
 unfold aaO;split
 ·omega
 ·rw [aip];exact zh _
theorem af7:∀ (l out:List Qa),(l.foldl aaO out).length≤out.length + l.length
 | [],out=>by simp
 | x :: r,out=>by
   have h1:=af7 r (aaO out x)
   have h2:=aft out x
   simp only [List.foldl_cons,List.length_cons];omega
theorem abS (l:List Qa):(J8 l).length≤l.length:=by simpa [J8] using af7 l []
theorem ajm {l:List Qa} {k:Nat} {x:Qa} (h:l[k]? = some x):J8 (l.take (k + 1)) = aaO (J8 (l.take k)) x:=by
 rw [J8,J8,zR,h,Option.toList_some,ZK];rfl
def noS (l out:List Qa) (k:Nat):St:=Jk [(0,.sl 11 (l.map Qa.v)),(6,.hd 0 0 out.length),(7,V.int k)] [(0,.buf true 11 (out.map Qa.v))] 1
def KY:=qd Proofs.Tryz.f25 []
def U2 (Γ:Env) (f:Nat):Prop:=(∀ (l:List Qa) (hl:l.length≤400) (hz:∀ x∈l,x.Sz) (hq:∀ x∈l,JD x = true),EvE Γ f [.sl 11 (l.map Qa.v)] 11 ((J8 l).map Qa.v))
attribute [local go_sem] Jk in
theorem aeK {Γ:Env} {f:Nat} (h:Has Γ.P f 38 KY.1.1.ac KY.1.2) (z0:V8 Γ 55) (z1:yk Γ 56):U2 Γ f:=by
 intro l hl hz hq
 refine ahE h (by simp) (fun x hx=>by obtain ⟨y,_,rfl⟩:=zD.1 hx;simp only [Qa.v,Qa.cells,V.noSl,UB,and_self]) fun C hC hm=>?_
 subst hC;simp only [KY,qd,DC.ac]
 have hal:(l.map Qa.v).length = l.length:=zb _
 refine zgo ?_;repeat' first|exact zt|apply zan|intro hc
 refine Qz (ι:=Nat) (fun k=>k≤l.length) (fun k=>[(4,V.int k)]) (fun k=>l.length - k) 0 (by omega) (zG _) zol zlt zet fun k hk K' hL=>?_
 simp only [ovT,JE,Nat.reduceEqDiff,reduceIte]
 rcases hdr:l.drop k with _|⟨x,r⟩
 rotate_left
 ·obtain ⟨hk',hget,hr⟩:=Qm hdr
  have hw:=Qg (k:=k) (by omega)
  have e1:decide ((k:Int) < (l.length:Int)) = true:=by simp;omega
  have vx:(l.map Qa.v)[k]? = some x.v:=by rw [zi,hget];rfl
  have hm:=zq hget
  have p1:=(z0 x (hz x hm) (hq x hm)).b
  have n0:((0:Int) != 0) = false:=by decide
  simp only [Qa.v,Qa.cells] at vx p1
  (have zx:=za e1 (za hal (za hw (za vx n0))));refine zgo ?_;repeat' first|exact zt|apply zan|intro hc
  all_goals exact hL _ (k + 1) zet (by omega) (by omega) zoe
 have hkl:=Qt hdr
 have e1:decide ((k:Int) < (l.length:Int)) = false:=by simp;omega
 clear hL
 (have zx:=za e1 hal);refine zgo ?_;repeat' first|exact zt|apply zan|intro hc
 refine Qp (ι:=Nat) (fun k=>k≤l.length) (fun k=>noS l (J8 (l.take k)) k) (fun k=>l.length - k) 0 (zG _) (Qd [(0,7000)]) (Qh [(0,7000)] (by simp only [go_sem,zwl,noS,J8,List.take_zero,List.foldl_nil,List.length_nil]<;>exact zcc) (by simp only [go_sem,zwl,noS,J8,List.take_zero,List.foldl_nil,zL]<;>exact zcc) (by simp [noS,Qd]) (by simp [noS];omega) (by omega)) fun k hk K' hL=>?_
 have hnk:=abS (l.take k)
 rw [zT,kJ hk] at hnk
 rcases hdr:l.drop k with _|⟨x,r⟩
 ·have hkl:=Qt hdr
  have e1:decide ((k:Int) < (l.length:Int)) = false:=by simp;omega
  obtain rfl:k = l.length:=by omega
  rw [zQ] at hnk ⊢
  simp only [noS]
  have htl:List.take (J8 l).length ((J8 l).map Qa.v) = (J8 l).map Qa.v:=zl (by simp)
  have hmm:(J8 l).length = ((J8 l).map Qa.v).length:=(zb _).symm
  (have zx:=za e1 (za hal htl));refine zgo ?_;repeat' first|exact zt|apply zan|intro hc
  all_goals first|(refine ap4 (xs:=(J8 l).map Qa.v) _ _ rfl ?_ ?_<;>first|exact hmm|exact hmm.symm|rfl|(simp;done))
 obtain ⟨hk',hget,hr⟩:=Qm hdr
 have hw:=Qg (k:=k) (by omega)
 have e1:decide ((k:Int) < (l.length:Int)) = true:=by simp;omega
 have vx:(l.map Qa.v)[k]? = some x.v:=by rw [zi,hget];rfl
 have hsu:=ajm hget
 have hsl:=aft (J8 (l.take k)) x
 simp only [noS]
 rcases hd:al3 (J8 (l.take k)) x with _|_
 ·have gW:=z1.2 (J8 (l.take k)) x (by omega) hd
  have hst:J8 (l.take (k + 1)) = ab3 (J8 (l.take k)) x:=by rw [hsu,aaO,hd];rfl
  have hil:=aip (J8 (l.take k)) x
  have e2:decide ((((ab3 (J8 (l.take k)) x).length:Nat):Int) > 400) = false:=by simp;omega
  have hml:((ab3 (J8 (l.take k)) x).map Qa.v).length = (ab3 (J8 (l.take k)) x).length:=zb _
  have hol:((J8 (l.take k)).map Qa.v).length = (J8 (l.take k)).length:=zb _
  have htl:List.take (J8 (l.take k)).length ((J8 (l.take k)).map Qa.v) = (J8 (l.take k)).map Qa.v:=zl (by simp)
  generalize ab3 (J8 (l.take k)) x = ins at *
  generalize J8 (l.take k) = out at *
  simp only [Qa.v,Qa.cells] at vx gW
  (have zx:=za e1 (za e2 (za hal (za hw (za vx (za hml (za hol htl)))))));refine zgo ?_;repeat' first|exact zt|apply zan|intro hc
  all_goals exact hL _ (k + 1) (Qd [(0,9001)]) (by omega) (by omega) (Qh [(0,9001)] (by simp only [go_sem,zwl,noS,hst,hal]<;>exact zcc) (by simp only [go_sem,zwl,noS,hst]<;>exact zcc) (by simp [noS,Qd]) (by simp [noS];omega) (by omega))
 ·have gX:=z1.1 (J8 (l.take k)) x (by omega) hd
  have hst:J8 (l.take (k + 1)) = J8 (l.take k):=by rw [hsu,aaO,hd];rfl
  have e2:decide ((((J8 (l.take k)).length:Nat):Int) > 400) = false:=by simp;omega
  have hol:((J8 (l.take k)).map Qa.v).length = (J8 (l.take k)).length:=zb _
  generalize J8 (l.take k) = out at *
  simp only [Qa.v,Qa.cells] at vx gX
  repeat' (first|(refine zsk ?_;intro K' hK)|refine zsp ?_|(refine zsc ?_ ?_<;>intro hc<;>first|exact znh|try simp only [znz] at hc)|simp (maxSteps:=1000000) only [go_sem,Jk,e1,e2,hal,hw,vx,hol,Int.toNat_natCast]|(refine hK _ ?_;clear hK K')|apply zan|(apply aaH;(focus exact rfl);(focus first|exact gX);(focus exact rfl);(focus exact rfl);(focus (first|exact rfl|(simp;done))))|(apply Qr;(focus first|exact (z0 _ zsd zsd).b))|exact zsq|fail)
  all_goals exact hL _ (k + 1) (Qd []) (by omega) (by omega) (Qh [] (by simp only [go_sem,zwl,noS,hst,hal]<;>exact zcc) (by simp only [go_sem,zwl,noS,hst]<;>exact zcc) (by simp [noS,Qd]) (by simp [noS]) (by omega))
def V1:=qd Proofs.Tryz.f45 [zhn 23]
def Vf (Γ:Env) (f:Nat):Prop:=∀ (l:List Qa) (hl:l.length < 2 ^ 40) (hz:∀ x∈l,x.Sz) (hq:∀ x∈l,JD x = true),EvN Γ f [.sl 11 (l.map Qa.v)] (V.bool (YL l))
theorem ack {Γ:Env} {f:Nat} (h:Has Γ.P f 36 V1.1.1.ac V1.1.2) (z0:V8 Γ 55) (z1:V7 Γ 78):Vf Γ f:=by
 intro l hl hz hq
 refine Qb h zsi zcl zcl fun C hC hm=>?_
 subst hC
 simp only [V1,qd,DC.ac]
 have hal:(l.map Qa.v).length = l.length:=zb _
 rcases h4:decide ((l.length:Int) > 400) with _|_
 rotate_left
 ·have hn:YL l = false:=by rw [YL];simp at h4;simp;omega
  rw [hn]
  (have zx:=za hal h4);exact zg
 have hn4:YL l = afO l:=by rw [YL];simp at h4;simp;omega
 (have zx:=za hal h4);refine zgo ?_;repeat' first|exact zt|apply zan|intro hc
 refine Qz (ι:=Nat) (fun k=>k≤l.length∧okP JD ltF l k = true) (fun k=>[(3,V.int k)]) (fun k=>l.length - k) 0 (by omega) ⟨zG _,rfl⟩ zol zlt zet fun k hk K' hL=>?_
 obtain ⟨hk,hinv⟩:=hk
 simp only [ovT,JE,Nat.reduceEqDiff,reduceIte]
 rcases hd:l.drop k with _|⟨x,r⟩
 ·have hkl:=Qt hd
  have e1:decide ((k:Int) < (l.length:Int)) = false:=by simp;omega
  obtain rfl:k = l.length:=by omega
  rw [hn4,afO,hinv]
  (have zx:=za e1 hal);exact zg
 ·obtain ⟨hk',hget,hr⟩:=Qm hd
  have hw:=Qg (k:=k) (by omega)
  have e1:decide ((k:Int) < (l.length:Int)) = true:=by simp;omega
  have hm:=zq hget
  have p1:=(z0 x (hz x hm) (hq x hm)).b
  have n0:((0:Int) != 0) = false:=by decide
  have vx:(l.map Qa.v)[k]? = some x.v:=by rw [zi,hget];rfl
  have hbad:okP JD ltF l (k + 1) = false→YL l = false:=fun h=>by rw [hn4,afO,akR h (by omega)]
  simp only [Qa.v,Qa.cells] at vx p1
  rcases k with _|k
  ·have hw0:IntKind.i64.wrap 1 = ((1:Nat):Int):=by decide
   have hg1:okP JD ltF l (0 + 1) = true:=by rw [akP hget,hq x hm]
   have e2:decide (((0:Nat):Int) > 0) = false:=rfl
   (have zx:=za e1 (za e2 (za hal (za hw (za hw0 (za vx n0))))));refine zgo ?_;repeat' first|exact zt|apply zan|intro hc
   all_goals exact hL _ 1 zet ⟨by omega,hg1⟩ (by omega) zoe
  ·have e2:decide (((k + 1:Nat):Int) > 0) = true:=zo (by omega)
   have hw2:IntKind.i64.wrap (((k + 1:Nat):Int) - 1) = (k:Int):=by rw [QP (by omega) (by omega)];omega
   obtain ⟨y,hgy⟩:∃ y,l[k]? = some y:=⟨_,zd (by omega)⟩
   have vy:(l.map Qa.v)[k]? = some y.v:=by rw [zi,hgy];rfl
   have hnext:=aig (p:=JD) (q:=ltF) hget hgy
   rw [hinv,hq x hm] at hnext
   have ho:=(z1 y x).b
   simp only [Qa.v,Qa.cells] at ho vy
   rcases hb:ltF y x with _|_
   ·have e3:decide (aaS y x≥0) = true:=by
     rw [ltF,zA] at hb
     exact zo (by omega)
    rw [hbad (by rw [hnext,hb];rfl)]
    generalize aaS y x = oo at *
    (have zx:=za e1 (za e2 (za e3 (za hal (za hw (za hw2 (za vx (za vy n0))))))));exact zg
   ·have e3:decide (aaS y x≥0) = false:=by
     rw [ltF,decide_eq_true_iff] at hb
     exact zp (by omega)
    have hg2:okP JD ltF l (k + 2) = true:=by rw [hnext,hb];rfl
    generalize aaS y x = oo at *
    (have zx:=za e1 (za e2 (za e3 (za hal (za hw (za hw2 (za vx (za vy n0))))))));refine zgo ?_;repeat' first|exact zt|apply zan|intro hc
    all_goals exact hL _ (k + 2) zet ⟨by omega,hg2⟩ (by omega) zoe
def awI (a b:Int):Int:=if a - b < b - a then b - a else a - b
theorem anv (a b:Int):awI a b = awI b a:=by unfold awI;split<;>split<;>omega
theorem ana (f g:Qa):abf f g = awI f.day g.day:=rfl
def KW:=qd Proofs.Tryz.f102 []
def U1 (Γ:Env) (f:Nat):Prop:=∀ (a b:Int) (ha:0≤a∧a≤40000) (hb:0≤b∧b≤40000),EvN Γ f [V.int a,V.int b] (V.int (awI a b))
theorem aeI {Γ:Env} {f:Nat} (h:Has Γ.P f 12 KW.1.1.ac KW.1.2) :U1 Γ f:=by
 intro a b ha hb
 refine Qb h zsi zcl zcl fun C hC hm=>?_
 subst hC
 simp only [KW,qd,DC.ac]
 obtain ⟨a1,a2⟩:=ha
 obtain ⟨b1,b2⟩:=hb
 have w1:IntKind.i64.wrap (a - b) = a - b:=QP (by omega) (by omega)
 have w2:IntKind.i64.wrap (b - a) = b - a:=QP (by omega) (by omega)
 rw [awI]
 (have zx:=za w1 w2);refine zgo ?_;repeat' first|exact zt|apply zan|intro hc
 all_goals first|exact zr|(refine Ql _ rfl ?_;simp only [go_sem];simp;done)
def nrB (a b:Qa) (day:Int):Bool:=decide (Q0 [YA (awI a.day day) (awI b.day day),YA a.day b.day,YA a.mach b.mach] < 0)
theorem aem (a b:Int):YA a b < 0↔a < b:=by unfold YA;split<;>(try split)<;>omega
theorem aav (a b:Int):YA a b = 0↔a = b:=by unfold YA;split<;>(try split)<;>omega
def V0:=qd Proofs.Tryz.f103 [zhn 10]
def Kx (Γ:Env) (f:Nat):Prop:=∀ (a b:Qa) (day:Int) (ha:aiL a) (hb:aiL b) (hd:0≤day∧day≤40000),EvN Γ f [a.v,b.v,V.int day] (V.bool (nrB a b day))
theorem acj {Γ:Env} {f:Nat} (h:Has Γ.P f 38 V0.1.1.ac V0.1.2) (z0:U1 Γ 102):Kx Γ f:=by
 intro a b day ha hb hd
 refine Qb h zsi zcl zcl fun C hC hm=>?_
 subst hC
 simp only [V0,qd,DC.ac]
 have p1:=(z0 a.day day ha hd).b
 have p2:=(z0 b.day day hb hd).b
 simp only [Qa.v,Qa.cells,nrB]
 generalize awI a.day day = x at *
 generalize awI b.day day = y at *
 by_cases c1:x = y
 ·subst c1
  have e1:(x != x) = false:=by simp
  by_cases c2:a.day = b.day
  ·have e2:(a.day != b.day) = false:=by simpa using c2
   have hr:decide (Q0 [YA x x,YA a.day b.day,YA a.mach b.mach] < 0) = decide (a.mach < b.mach):=by
    rw [decide_eq_decide]
    simp only [Q0,(aav x x).2 rfl,(aav _ _).2 c2]
    rw [if_neg (by simp),if_neg (by simp)]
    split
    ·exact aem _ _
    ·rename_i h;have h':=(aav _ _).1 (by simpa using h);omega
   rw [hr]
   (have zx:=za e1 e2);exact zg
  ·have e2:(a.day != b.day) = true:=by simpa using c2
   have hr:decide (Q0 [YA x x,YA a.day b.day,YA a.mach b.mach] < 0) = decide (a.day < b.day):=by
    rw [decide_eq_decide]
    have c3:YA a.day b.day≠0:=fun h=>c2 ((aav _ _).1 h)
    simp only [Q0,(aav x x).2 rfl]
    rw [if_neg (by simp),if_pos c3]
    exact aem _ _
   rw [hr]
   (have zx:=za e1 e2);exact zg
 ·have e1:(x != y) = true:=by simpa using c1
  have hr:decide (Q0 [YA x y,YA a.day b.day,YA a.mach b.mach] < 0) = decide (x < y):=by
   rw [decide_eq_decide]
   have c3:YA x y≠0:=fun h=>c1 ((aav _ _).1 h)
   simp only [Q0]
   rw [if_pos c3]
   exact aem _ _
  rw [hr]
  (have zx:=e1);exact zg
theorem aax {l:List Qa} {f g:Qa} {gap best:Int} {k:Nat} (hg:l[k]? = some g):VT l f gap best k = if (g.mach == 0) || ((g.host != f.host) || decide (awI g.day f.day > gap)) then best else if best < 0 then (k:Int) else
  match l[best.toNat]? with
  | none=>best
  | some h=>if nrB g h f.day then (k:Int) else best:=by
 rw [VT,hg]
 simp only [ana,nrB,anv f.day,zy,kG,kF,bne_iff_ne]
 rfl
def WT:=qd Proofs.Tryz.f79 [zhn 18,zhn 34]
def Wa (Γ:Env) (f:Nat):Prop:=∀ (l:List Qa) (i:Nat) (f0:Qa) (gap:Int) (hl:l.length < 2 ^ 40) (hd:∀ x∈l,aiL x) (hi:l[i]? = some f0),EvN Γ f [.sl 11 (l.map Qa.v),V.int i,V.int gap] (V.int (Xi l f0 gap))
theorem aa2 {Γ:Env} {f:Nat} (h:Has Γ.P f 69 WT.1.1.ac WT.1.2) (z0:U1 Γ 102) (z1:Kx Γ 103):Wa Γ f:=by
 intro l i f0 gap hl hd hi
 refine Qb h zsi zcl zcl fun C hC hm=>?_
 subst hC
 simp only [WT,qd,DC.ac]
 have hal:(l.map Qa.v).length = l.length:=zb _
 have v0:(l.map Qa.v)[i]? = some f0.v:=by rw [zi,hi];rfl
 have hf0:=hd f0 (zq hi)
 simp only [Qa.v,Qa.cells] at v0
 refine zgo ?_;repeat' first|exact zt|apply zan|intro hc
 refine Qz (ι:=Nat) (fun k=>k≤l.length) (fun k=>[(7,V.int (Uz l f0 gap k)),(8,V.int k)]) (fun k=>l.length - k) 0 (by omega) (zG _) zol zlt (by simp only [Nat.reduceAdd,ovT,JE,Nat.reduceEqDiff,reduceIte,J3,YB,adI,u32,u33,u34,u35,u36,u37,u38,u39,and_self,and_true,true_and];exact ⟨rfl,rfl⟩) fun k hk K' hL=>?_
 simp only [ovT,JE,Nat.reduceEqDiff,reduceIte]
 have hrng:=qA l f0 gap k
 have hsuc:=qU l f0 gap k
 have hN:Xi l f0 gap = Uz l f0 gap l.length:=rfl
 rcases hdr:l.drop k with _|⟨g,r⟩
 ·have hkl:=Qt hdr
  have e1:decide ((k:Int) < (l.length:Int)) = false:=by simp;omega
  obtain rfl:k = l.length:=by omega
  rw [hN]
  (have zx:=za e1 hal);exact zg
 ·obtain ⟨hk',hget,hr⟩:=Qm hdr
  have hw:=Qg (k:=k) (by omega)
  have e1:decide ((k:Int) < (l.length:Int)) = true:=by simp;omega
  have hg:=hd g (zq hget)
  have vg:(l.map Qa.v)[k]? = some g.v:=by rw [zi,hget];rfl
  have p1:=(z0 g.day f0.day hg hf0).b
  rw [aax hget] at hsuc
  clear hN
  generalize Uz l f0 gap k = best at *
  generalize awI g.day f0.day = dg at *
  simp only [Qa.v,Qa.cells] at vg
  rcases c1:(g.mach == 0) with _|_
  rotate_left
  ·rw [c1] at hsuc
   simp only [Zl,if_true] at hsuc
   (have zx:=za e1 (za c1 (za hal (za hw (za vg v0)))));refine zgo ?_;repeat' first|exact zt|apply zan|intro hc
   all_goals exact hL _ (k + 1) (by rw [hsuc];simp only [Nat.reduceAdd,ovT,JE,Nat.reduceEqDiff,reduceIte,J3,YB,adI,u32,u33,u34,u35,u36,u37,u38,u39,and_self,and_true,true_and]) (by omega) (by omega) zoe
  rcases c2:(g.host != f0.host) with _|_
  rotate_left
  ·have c2':(g.host == f0.host) = false:=by simpa using c2
   rw [c1,c2] at hsuc
   simp only [Zl,ZS,if_true] at hsuc
   (have zx:=za e1 (za c1 (za c2' (za hal (za hw (za vg v0))))));refine zgo ?_;repeat' first|exact zt|apply zan|intro hc
   all_goals exact hL _ (k + 1) (by rw [hsuc];simp only [Nat.reduceAdd,ovT,JE,Nat.reduceEqDiff,reduceIte,J3,YB,adI,u32,u33,u34,u35,u36,u37,u38,u39,and_self,and_true,true_and]) (by omega) (by omega) zoe
  have c2':(g.host == f0.host) = true:=by simpa using c2
  rcases c3:decide (dg > gap) with _|_
  rotate_left
  ·rw [c1,c2,c3] at hsuc
   simp only [ZO,ZS,if_true] at hsuc
   (have zx:=za e1 (za c1 (za c2' (za c3 (za hal (za hw (za vg v0)))))));refine zgo ?_;repeat' first|exact zt|apply zan|intro hc
   all_goals exact hL _ (k + 1) (by rw [hsuc];simp only [Nat.reduceAdd,ovT,JE,Nat.reduceEqDiff,reduceIte,J3,YB,adI,u32,u33,u34,u35,u36,u37,u38,u39,and_self,and_true,true_and]) (by omega) (by omega) zoe
  rw [c1,c2,c3] at hsuc
  simp only [ZT,zB,if_false] at hsuc
  by_cases c4:best < 0
  ·rw [if_pos c4] at hsuc
   have e5:decide (best < 0) = true:=zo c4
   (have zx:=za e1 (za c1 (za c2' (za c3 (za e5 (za hal (za hw (za vg v0))))))));refine zgo ?_;repeat' first|exact zt|apply zan|intro hc
   all_goals exact hL _ (k + 1) (by rw [hsuc];simp only [Nat.reduceAdd,ovT,JE,Nat.reduceEqDiff,reduceIte,J3,YB,adI,u32,u33,u34,u35,u36,u37,u38,u39,and_self,and_true,true_and]) (by omega) (by omega) zoe
  ·rw [if_neg c4] at hsuc
   have e5:decide (best < 0) = false:=zp c4
   obtain ⟨j,rfl⟩:∃ j:Nat,best = j:=⟨best.toNat,by omega⟩
   have hj:j < l.length:=by omega
   obtain ⟨q,hgq⟩:∃ q,l[j]? = some q:=⟨_,zd hj⟩
   have vq:(l.map Qa.v)[j]? = some q.v:=by rw [zi,hgq];rfl
   rw [Int.toNat_natCast,hgq] at hsuc
   simp only at hsuc
   have p2:=(z1 g q f0.day hg (hd q (zq hgq)) hf0).b
   simp only [Qa.v,Qa.cells] at vq p2
   rcases c5:nrB g q f0.day with _|_
   ·rw [c5] at p2 hsuc
    simp only [zB,if_false] at hsuc
    (have zx:=za e1 (za c1 (za c2' (za c3 (za e5 (za hal (za hw (za vg (za v0 vq)))))))));refine zgo ?_;repeat' first|exact zt|apply zan|intro hc
    all_goals exact hL _ (k + 1) (by rw [hsuc];simp only [Nat.reduceAdd,ovT,JE,Nat.reduceEqDiff,reduceIte,J3,YB,adI,u32,u33,u34,u35,u36,u37,u38,u39,and_self,and_true,true_and]) (by omega) (by omega) zoe
   ·rw [c5] at p2 hsuc
    simp only [if_true] at hsuc
    (have zx:=za e1 (za c1 (za c2' (za c3 (za e5 (za hal (za hw (za vg (za v0 vq)))))))));refine zgo ?_;repeat' first|exact zt|apply zan|intro hc
    all_goals exact hL _ (k + 1) (by rw [hsuc];simp only [Nat.reduceAdd,ovT,JE,Nat.reduceEqDiff,reduceIte,J3,YB,adI,u32,u33,u34,u35,u36,u37,u38,u39,and_self,and_true,true_and]) (by omega) (by omega) zoe
def KP (l:List Qa) (gap:Int) (f:Qa):Int:=if f.mach≠0 then f.mach else match l[(Xi l f gap).toNat]? with
 | some g=>if Xi l f gap≥0 then g.mach else 0
 | none=>0
def atM (l:List Qa) (gap:Int) (k:Nat):Int:=match l[k]? with
 | some f=>KP l gap f
 | none=>0
def UA (l:List Qa) (gap:Int) (f:Qa) (k:Nat):Bool:=match l[k]? with
 | some g=>(g.host == f.host) && ((g.mach == 0) && decide (Xi l g gap < 0))
 | none=>false
def Vz (l:List Qa) (gap:Int) (f:Qa):Nat→Option Nat
 | 0=>none
 | k + 1=>if UA l gap f k = true then some k else Vz l gap f k
def WL (l:List Qa) (gap m:Int) (i:Nat):Nat→Nat
 | 0=>i
 | n + 1=>if atM l gap (i - (n + 1)) = m then i - (n + 1) else WL l gap m i n
def jR (l:List Qa) (gap:Int) (out:List Int) (i:Nat) (f:Qa) (m:Int):Int :=
 if m≠0 then (WL l gap m i i:Nat) else match Vz l gap f i with
  | none=>i
  | some k=>match l[k]? with
    | some g=>if f.day - g.day≤gap then out.getD k 0 else i
    | none=>i
theorem aii (l:List Qa) (f:Qa) (gap:Int):Xi l f gap = -1∨∃ (n:Nat) (q:Qa),Xi l f gap = n∧l[n]? = some q:=by
 rcases qA l f gap l.length with h|⟨h1,h2⟩
 ·exact .inl h
 ·obtain ⟨n,hn⟩:∃ n:Nat,Xi l f gap = n:=⟨(Xi l f gap).toNat,by have:0≤Xi l f gap:=h1;omega⟩
  have h2:Xi l f gap < l.length:=h2
  exact .inr ⟨n,l[n]'(by omega),hn,zd (by omega)⟩
theorem aht (l:List Qa) (gap m:Int) {i k:Nat} (hk:k < i):WL l gap m i (i - k) = if atM l gap k = m then k else WL l gap m i (i - (k + 1)):=by
 obtain ⟨n,hn⟩:∃ n,i - k = n + 1:=⟨i - k - 1,by omega⟩
 rw [hn,WL,show i - (n + 1) = k by omega,show i - (k + 1) = n by omega]
def UQ:=qd Proofs.Tryz.f80 [zhn 13,zhn 26]
def qq (Γ:Env) (f:Nat):Prop:=∀ (l:List Qa) (out:List Int) (i:Nat) (f0:Qa) (m gap:Int) (hl:l.length < 2 ^ 40) (hd:∀ x∈l,aiL x) (hi:l[i]? = some f0) (ho:out.length = l.length),EvN Γ f [.sl 11 (l.map Qa.v),.sl 1 (out.map V.int),V.int i,V.int m,V.int gap] (V.int (jR l gap out i f0 m))
theorem adi {Γ:Env} {f:Nat} (h:Has Γ.P f 96 UQ.1.1.ac UQ.1.2) (z0:Wa Γ 79):qq Γ f:=by
 intro l out i f0 m gap hl hd hi ho
 refine Qb h zsi zcl zcl fun C hC hm=>?_
 subst hC
 simp only [UQ,qd,DC.ac]
 have hal:(l.map Qa.v).length = l.length:=zb _
 have v0:(l.map Qa.v)[i]? = some f0.v:=by rw [zi,hi];rfl
 have hil:=(zn.1 hi).1
 have hf0:=hd f0 (zq hi)
 simp only [Qa.v,Qa.cells] at v0
 rcases c0:(m != 0) with _|_
 rotate_left
 ·have hm0:m≠0:=by simpa using c0
  have hr:jR l gap out i f0 m = (WL l gap m i i:Nat):=by rw [jR,if_pos hm0]
  rw [hr]
  clear hr
  (have zx:=za hal c0);refine zgo ?_;repeat' first|exact zt|apply zan|intro hc
  refine Qz (ι:=Nat) (fun k=>k≤i∧WL l gap m i (i - k) = WL l gap m i i) (fun k=>[(11,V.int k)]) (fun k=>i - k) 0 (by omega) ⟨zG _,rfl⟩ zol zlt zet fun k hk K' hL=>?_
  obtain ⟨hk,hinv⟩:=hk
  simp only [ovT,JE,Nat.reduceEqDiff,reduceIte]
  by_cases hlt:k < i
  rotate_left
  ·have e1:decide ((k:Int) < (i:Int)) = false:=by simp;omega
   rw [show i - k = 0 by omega,WL] at hinv
   rw [← hinv]
   (have zx:=e1);exact zg
  ·have e1:decide ((k:Int) < (i:Int)) = true:=by simp;omega
   have hw:=Qg (k:=k) (by omega)
   obtain ⟨g,hg⟩:∃ g,l[k]? = some g:=⟨_,zd (by omega)⟩
   have vg:(l.map Qa.v)[k]? = some g.v:=by rw [zi,hg];rfl
   have p1:=(z0 l k g gap hl hd hg).b
   have hat:atM l gap k = KP l gap g:=by rw [atM,hg]
   rw [aht l gap m hlt,hat] at hinv
   simp only [Qa.v,Qa.cells] at vg
   rcases c1:(g.mach == 0) with _|_
   ·have he:KP l gap g = g.mach:=by rw [KP,if_pos (by simpa using c1)]
    rw [he] at hinv
    rcases c2:(g.mach == m) with _|_
    ·rw [if_neg (by simpa using c2)] at hinv
     (have zx:=za e1 (za hal (za hw (za vg (za c1 c2)))));refine zgo ?_;repeat' first|exact zt|apply zan|intro hc
     all_goals exact hL _ (k + 1) zet ⟨by omega,hinv⟩ (by omega) zoe
    ·rw [if_pos (by simpa using c2)] at hinv
     rw [← hinv]
     (have zx:=za e1 (za hal (za hw (za vg (za c1 c2)))));exact zg
   ·have hg0:g.mach = 0:=by simpa using c1
    rcases aii l g gap with hn|⟨n,q,hn,hq⟩
    ·have he:KP l gap g = 0:=by
      rw [KP,if_neg (by simpa using hg0),hn]
      split<;>rfl
     rw [he] at hinv
     rw [hn] at p1
     have e2:decide ((-1:Int)≥0) = false:=by decide
     rcases c2:((0:Int) == m) with _|_
     ·rw [if_neg (by simpa using c2)] at hinv
      rw [hg0] at vg
      (have zx:=za e1 (za hal (za hw (za vg (za e2 c2)))));refine zgo ?_;repeat' first|exact zt|apply zan|intro hc
      all_goals exact hL _ (k + 1) zet ⟨by omega,hinv⟩ (by omega) zoe
     ·exact absurd (by simpa using c2:(0:Int) = m).symm hm0
    ·have he:KP l gap g = q.mach:=by
      rw [KP,if_neg (by simpa using hg0),hn,Int.toNat_natCast,hq]
      simp only
      rw [if_pos (by omega)]
     rw [he] at hinv
     rw [hn] at p1
     have e2:decide ((n:Int)≥0) = true:=zo (by omega)
     have vq:(l.map Qa.v)[n]? = some q.v:=by rw [zi,hq];rfl
     simp only [Qa.v,Qa.cells] at vq
     rcases c2:(q.mach == m) with _|_
     ·rw [if_neg (by simpa using c2)] at hinv
      (have zx:=za e1 (za hal (za hw (za vg (za vq (za c1 (za e2 c2)))))));refine zgo ?_;repeat' first|exact zt|apply zan|intro hc
      all_goals exact hL _ (k + 1) zet ⟨by omega,hinv⟩ (by omega) zoe
     ·rw [if_pos (by simpa using c2)] at hinv
      rw [← hinv]
      (have zx:=za e1 (za hal (za hw (za vg (za vq (za c1 (za e2 c2)))))));exact zg
 have hm0:m = 0:=by simpa using c0
 subst hm0
 have hr:jR l gap out i f0 0 = match Vz l gap f0 i with
  | none=>(i:Int)
  | some k=>match l[k]? with
    | some g=>if f0.day - g.day≤gap then out.getD k 0 else i
    | none=>i:=by rw [jR,if_neg (by simp)]
 have n0:((0:Int) != 0) = false:=by decide
 have hwi:IntKind.i64.wrap ((i:Int) - 1) = (i:Int) - 1:=QP (by omega) (by omega)
 (have zx:=za hal (za n0 hwi));refine zgo ?_;repeat' first|exact zt|apply zan|intro hc
 refine Qz (ι:=Nat) (fun k=>k≤i∧Vz l gap f0 k = Vz l gap f0 i) (fun k=>[(14,V.int ((k:Int) - 1))]) (fun k=>k) i (by omega) ⟨zh _,rfl⟩ zol zlt zet fun k hk K' hL=>?_
 obtain ⟨hk,hinv⟩:=hk
 simp only [ovT,JE,Nat.reduceEqDiff,reduceIte]
 rcases k with _|k
 ·have e1:decide (((0:Nat):Int) - 1≥0) = false:=by decide
  rw [← hinv] at hr
  simp only [Vz] at hr
  rw [hr]
  (have zx:=e1);exact zg
 ·have hk1:((k + 1:Nat):Int) - 1 = (k:Int):=by omega
  rw [hk1]
  have e1:decide ((k:Int)≥0) = true:=zo (by omega)
  have hw:IntKind.i64.wrap ((k:Int) - 1) = (k:Int) - 1:=QP (by omega) (by omega)
  obtain ⟨g,hg⟩:∃ g,l[k]? = some g:=⟨_,zd (by omega)⟩
  have vg:(l.map Qa.v)[k]? = some g.v:=by rw [zi,hg];rfl
  have p1:=(z0 l k g gap hl hd hg).b
  have hlb:UA l gap f0 k = ((g.host == f0.host) && ((g.mach == 0) && decide (Xi l g gap < 0))):=by rw [UA,hg]
  rw [Vz] at hinv
  simp only [Qa.v,Qa.cells] at vg
  generalize Xi l g gap = nn at *
  rcases c1:(g.host == f0.host) with _|_
  ·rw [hlb,c1,zE,if_neg (by decide)] at hinv
   (have zx:=za e1 (za hal (za hw (za vg (za v0 c1)))));refine zgo ?_;repeat' first|exact zt|apply zan|intro hc
   all_goals exact hL _ k zet ⟨by omega,hinv⟩ (by omega) zoe
  rcases c2:(g.mach == 0) with _|_
  ·rw [hlb,c1,c2,zE,zO,if_neg (by decide)] at hinv
   (have zx:=za e1 (za hal (za hw (za vg (za v0 (za c1 c2))))));refine zgo ?_;repeat' first|exact zt|apply zan|intro hc
   all_goals exact hL _ k zet ⟨by omega,hinv⟩ (by omega) zoe
  rcases c3:decide (nn < 0) with _|_
  ·rw [hlb,c1,c2,c3,if_neg (by decide)] at hinv
   (have zx:=za e1 (za hal (za hw (za vg (za v0 (za c1 (za c2 c3)))))));refine zgo ?_;repeat' first|exact zt|apply zan|intro hc
   all_goals exact hL _ k zet ⟨by omega,hinv⟩ (by omega) zoe
  rw [hlb,c1,c2,c3,if_pos (by decide)] at hinv
  rw [← hinv] at hr
  simp only [hg] at hr
  have hgd:=hd g (zq hg)
  obtain ⟨d1,d2⟩:=hf0
  obtain ⟨d3,d4⟩:=hgd
  have hws:IntKind.i64.wrap (f0.day - g.day) = f0.day - g.day:=QP (by omega) (by omega)
  have hok:k < out.length:=by omega
  have vo:(out.map V.int)[k]? = some (V.int (out.getD k 0)):=by rw [zi,zK,zd hok];rfl
  rw [hr]
  rcases c4:decide (f0.day - g.day≤gap) with _|_
  ·rw [if_neg (by simpa using c4)]
   (have zx:=za e1 (za hal (za hw (za hws (za vg (za v0 (za c1 (za c2 (za c3 c4)))))))));exact zg
  ·rw [if_pos (by simpa using c4)]
   (have zx:=za e1 (za hal (za hw (za hws (za vg (za v0 (za vo (za c1 (za c2 (za c3 c4))))))))));exact zg
def aaR (n:Nat) (r:List Int):List Int:=r++List.replicate (n - r.length) (-1)
def J5 (l:List Qa) (gap:Int):Nat→List Int
 | 0=>[]
 | k + 1=>match l[k]? with
   | some f=>J5 l gap k++[jR l gap (aaR l.length (J5 l gap k)) k f (KP l gap f)]
   | none=>J5 l gap k
theorem vj (l:List Qa) (gap:Int):∀ k,k≤l.length→(J5 l gap k).length = k
 | 0,_=>rfl
 | k + 1,h=>by
   have hg:l[k]? = some l[k]:=zd (by omega)
   rw [J5,hg]
   simp [vj l gap k (by omega)]
theorem ah9 {n:Nat} {r:List Int} (h:r.length≤n):(aaR n r).length = n:=by simp [aaR];omega
theorem amk {n:Nat} {r:List Int} (h:r.length < n) (v:Int):(aaR n r).set r.length v = aaR n (r++[v]):=by
 obtain ⟨m,hm⟩:∃ m,n - r.length = m + 1:=⟨n - r.length - 1,by omega⟩
 rw [aaR,aaR,hm,zv,List.length_singleton,show n - (r.length + 1) = m by omega,List.replicate_succ,ZI _ _ (zh _),kD,List.set_cons_zero,Za];rfl
def yE (n k:Nat):List Int:=List.replicate k (-1)++List.replicate (n - k) 0
theorem ald {n k:Nat} (h:k≤n):(yE n k).length = n:=by simp [yE];omega
theorem alc {n k:Nat} (h:k < n):(yE n k).set k (-1) = yE n (k + 1):=by
 obtain ⟨m,hm⟩:∃ m,n - k = m + 1:=⟨n - k - 1,by omega⟩
 rw [yE,yE,hm,show n - (k + 1) = m by omega,List.replicate_succ,ZI _ _ (by simp)]
 simp [List.replicate_succ' (n:=k)]
theorem abU (r:List Int) (k:Nat) (v:Int):(r.map V.int).set k (V.int v) = (r.set k v).map V.int:=by rw [Z3]
theorem ajx (n:Nat):List.replicate n (V.sc (Value.int .i64 0)) = (yE n 0).map V.int:=by simp [yE,V.int]
theorem ale (n:Nat):yE n n = aaR n []:=by simp [yE,aaR]
def KV:=qd Proofs.Tryz.f46 []
def jk (Γ:Env) (f:Nat):Prop:=∀ (l:List Qa) (gap:Int) (hl:l.length≤400) (hd:∀ x∈l,aiL x),EvC Γ f [.sl 11 (l.map Qa.v),V.int gap] (.sl 1 ((J5 l gap l.length).map V.int))
attribute [local go_sem] Jk in
theorem aeH {Γ:Env} {f:Nat} (h:Has Γ.P f 56 KV.1.1.ac KV.1.2) (z0:Wa Γ 79) (z1:qq Γ 80):jk Γ f:=by
 intro l gap hl hd
 refine Jt h zsi zcl fun C hC hm=>?_
 subst hC
 simp only [KV,qd,DC.ac]
 have hal:(l.map Qa.v).length = l.length:=zb _
 have hz:=ajx l.length
 have hmz:[V.sc (Value.int IntKind.i64 0)].headD V.top = V.sc (Value.int IntKind.i64 0):=rfl
 (have zx:=za hal (za hz hmz));refine zgo ?_;repeat' first|exact zt|apply zan|intro hc
 refine Qp (ι:=Nat) (fun k=>k≤l.length) (fun k=>Jk [(0,.sl 11 (l.map Qa.v)),(1,V.int gap),(5,.hd 0 0 l.length),(6,V.int k)] [(0,.buf true 1 ((yE l.length k).map V.int))] 1) (fun k=>l.length - k) 0 (zG _) (Qd [(0,3000)]) (zwg [(0,3000)]) fun k hk K' hL=>?_
 have hbl:((yE l.length k).map V.int).length = l.length:=by rw [zb,ald hk]
 by_cases hlt:k < l.length
 ·have e1:decide ((k:Int) < (l.length:Int)) = true:=by simp;omega
  have hw:=Qg (k:=k) (by omega)
  have hs:((yE l.length k).map V.int).set k (V.int (-1)) = (yE l.length (k + 1)).map V.int:=by rw [abU,alc hlt]
  have vz:((yE l.length k).map V.int)[k]? = some (V.sc (Value.int .i64 0)):=by
   rw [zi,yE,ki (by simp),Z9,kD,List.getElem?_replicate,if_pos (by omega)];rfl
  (have zx:=za e1 (za hal (za hw (za hbl (za vz hs)))));refine zgo ?_;repeat' first|exact zt|apply zan|intro hc
  all_goals exact hL _ (k + 1) (Qd []) (by omega) (by omega) (zwg [])
 have e1:decide ((k:Int) < (l.length:Int)) = false:=by simp;omega
 obtain rfl:k = l.length:=by omega
 rw [ale]
 clear hL hbl
 have hpl:(aaR l.length []).length = l.length:=ah9 (zG _)
 (have zx:=za e1 hal);refine zgo ?_;repeat' first|exact zt|apply zan|intro hc
 refine Qp (ι:=Nat) (fun k=>k≤l.length) (fun k=>Jk [(0,.sl 11 (l.map Qa.v)),(1,V.int gap),(5,.hd 0 0 l.length),(7,V.int k)] [(0,.buf true 1 ((aaR l.length (J5 l gap k)).map V.int))] 1) (fun k=>l.length - k) 0 (zG _) (Qd [(0,0)]) (Qh [(0,0)] zwa (by simp only [go_sem,zwl,J5]<;>exact zcc) (by simp [Qd]) (by simp;omega) (by omega)) fun k hk K' hL=>?_
 have hrl:=vj l gap k hk
 have hpl:=ah9 (n:=l.length) (r:=J5 l gap k) (by omega)
 have hbl:((aaR l.length (J5 l gap k)).map V.int).length = l.length:=by rw [zb,hpl]
 have htl:List.take l.length ((aaR l.length (J5 l gap k)).map V.int) = (aaR l.length (J5 l gap k)).map V.int:=zl (by omega)
 rcases hdr:l.drop k with _|⟨f0,r⟩
 ·have hkl:=Qt hdr
  have e1:decide ((k:Int) < (l.length:Int)) = false:=by simp;omega
  obtain rfl:k = l.length:=by omega
  have hpe:aaR l.length (J5 l gap l.length) = J5 l gap l.length:=by simp [aaR,hrl]
  rw [hpe] at htl hbl ⊢
  (have zx:=za e1 (za hal htl));refine zgo ?_;repeat' first|exact zt|apply zan|intro hc
  all_goals first|exact zr|(refine Ql _ rfl ?_;simp only [go_sem];simp [htl];done)
 obtain ⟨hk',hget,hr⟩:=Qm hdr
 have hw:=Qg (k:=k) (by omega)
 have e1:decide ((k:Int) < (l.length:Int)) = true:=by simp;omega
 have v0:(l.map Qa.v)[k]? = some f0.v:=by rw [zi,hget];rfl
 have p1:=(z0 l k f0 gap (by omega) hd hget).b
 have p2:=(z1 l (aaR l.length (J5 l gap k)) k f0 (KP l gap f0) gap (by omega) hd hget hpl).b
 have hsu:J5 l gap (k + 1) = J5 l gap k++[jR l gap (aaR l.length (J5 l gap k)) k f0 (KP l gap f0)]:=by rw [J5,hget]
 have hst:=amk (n:=l.length) (r:=J5 l gap k) (by omega) (jR l gap (aaR l.length (J5 l gap k)) k f0 (KP l gap f0))
 rw [hrl,← hsu] at hst
 have hs:=abU (aaR l.length (J5 l gap k)) k (jR l gap (aaR l.length (J5 l gap k)) k f0 (KP l gap f0))
 rw [hst] at hs
 have vz:((aaR l.length (J5 l gap k)).map V.int)[k]? = some (V.sc (Value.int .i64 (-1))):=by
  rw [zi,aaR,ki (by omega),hrl,kD,List.getElem?_replicate,if_pos (by omega)];rfl
 clear hsu hst
 generalize jR l gap (aaR l.length (J5 l gap k)) k f0 (KP l gap f0) = gf at *
 simp only [Qa.v,Qa.cells] at v0
 rcases c1:(f0.mach == 0) with _|_
 ·have he:KP l gap f0 = f0.mach:=by rw [KP,if_pos (by simpa using c1)]
  rw [he] at p2
  clear p1
  (have zx:=za e1 (za hal (za hw (za hbl (za htl (za vz (za hs (za v0 c1))))))));refine zgo ?_;repeat' first|exact zt|apply zan|intro hc
  all_goals exact hL _ (k + 1) (Qd []) (by omega) (by omega) (zwg [])
 ·have hg0:f0.mach = 0:=by simpa using c1
  rcases aii l f0 gap with hn|⟨n,q,hn,hq⟩
  ·have he:KP l gap f0 = 0:=by
    rw [KP,if_neg (by simpa using hg0),hn]
    split<;>rfl
   rw [he] at p2
   rw [hn] at p1
   rw [hg0] at v0
   have e2:decide ((-1:Int)≥0) = false:=by decide
   have e3:((0:Int) == 0) = true:=by decide
   (have zx:=za e1 (za e2 (za e3 (za hal (za hw (za hbl (za htl (za vz (za hs v0)))))))));refine zgo ?_;repeat' first|exact zt|apply zan|intro hc
   all_goals exact hL _ (k + 1) (Qd []) (by omega) (by omega) (zwg [])
  ·have he:KP l gap f0 = q.mach:=by
    rw [KP,if_neg (by simpa using hg0),hn,Int.toNat_natCast,hq]
    simp only
    rw [if_pos (by omega)]
   rw [he] at p2
   rw [hn] at p1
   have e2:decide ((n:Int)≥0) = true:=zo (by omega)
   have vq:(l.map Qa.v)[n]? = some q.v:=by rw [zi,hq];rfl
   simp only [Qa.v,Qa.cells] at vq
   (have zx:=za e1 (za e2 (za hal (za hw (za hbl (za htl (za vz (za hs (za v0 (za vq c1))))))))));refine zgo ?_;repeat' first|exact zt|apply zan|intro hc
   all_goals exact hL _ (k + 1) (Qd []) (by omega) (by omega) (zwg [])
def UG (l:List Int):Nat→Nat→List Qa×Nat
 | 0,k=>([],k)
 | n + 1,k=>((yX l k).1 :: (UG l n (yX l k).2).1,(UG l n (yX l k).2).2)
def xX (l:List Int) (k:Nat) (most:Int):List Qa×Nat :=
 (J8 (UG l (Qk l k (most + 1)).1.toNat (Qk l k (most + 1)).2).1,(UG l (Qk l k (most + 1)).1.toNat (Qk l k (most + 1)).2).2)
theorem ahw {l:List Int} {k:Nat} (h:k≤l.length):(Js l k).2≤l.length:=xC (QG (ju (QG (ju (xC (QG h))))))
theorem amW {l:List Int} {f:Qa} {k:Nat} (h:k≤l.length):(als l f k).2≤l.length:=by
 unfold als
 (repeat' split)<;>first|exact QG h|exact QG (ju h)|exact xC h
theorem aiz {l:List Int} {k:Nat} (h:k≤l.length):(yX l k).2≤l.length:=amW (ahw h)
theorem aeT {l:List Int}:∀ (n:Nat) {k:Nat},k≤l.length→(UG l n k).2≤l.length
 | 0,_,h=>h
 | n + 1,_,h=>aeT n (aiz h)
theorem acB (l:List Int):∀ (n k:Nat),(UG l n k).1.length = n
 | 0,_=>rfl
 | n + 1,k=>by rw [UG,List.length_cons,acB l n]
theorem jZ {l:List Int} {P:Qa→Prop} (h:∀ k,k≤l.length→P (yX l k).1):∀ (n:Nat) {k:Nat},k≤l.length→∀ x∈(UG l n k).1,P x
 | 0,_,_,_,hx=>by cases hx
 | n + 1,k,hk,x,hx=>by
   rcases zC.1 hx with rfl|hx
   ·exact h k hk
   ·exact jZ h n (aiz hk) x hx
theorem ad5 (l:List Int):∀ (n k:Nat),UG l (n + 1) k = ((UG l n k).1++[(yX l (UG l n k).2).1],(yX l (UG l n k).2).2)
 | 0,_=>rfl
 | n + 1,k=>by
   have:=ad5 l n (yX l k).2
   rw [UG,this];rfl
theorem apT:QT [97] = true∧QT [98] = true∧QT [99] = true∧QT [115] = true∧QT [116] = true:=by decide +kernel
theorem ahv (l:List Int) (k:Nat):∃ h s,(Js l k).1 = ⟨(Js l k).1.src,h,(Js l k).1.mach,(Js l k).1.day,(Js l k).1.conf,(Js l k).1.kind,s,0,0,0,[]⟩∧(h = [97]∨h = [98]∨h = [99])∧(s = [115]∨s = [116]) ∧
  (1≤(Js l k).1.src∧(Js l k).1.src≤7)∧(0≤(Js l k).1.mach∧(Js l k).1.mach≤3)∧(0≤(Js l k).1.day∧(Js l k).1.day≤11)∧(1≤(Js l k).1.conf∧(Js l k).1.conf≤100)∧(1≤(Js l k).1.kind∧(Js l k).1.kind≤8):=by
 have r1:=Qo (l:=l) (k:=k) (n:=7) (by omega) (by omega)
 simp only [Js]
 generalize Qk l k 7 = x1 at *
 have r2:=abx (l:=l) (k:=x1.2) (xs:=[[97],[98],[99]]) (by decide) (by decide)
 generalize jC l x1.2 [[97],[98],[99]] = x2 at *
 have r3:=Kc (l:=l) (k:=x2.2) (xs:=[0,1,2,0,3]) (by decide) (by decide)
 generalize ofD l x2.2 [0,1,2,0,3] = x3 at *
 have r4:=Qo (l:=l) (k:=x3.2) (n:=12) (by omega) (by omega)
 generalize Qk l x3.2 12 = x4 at *
 have r5:=Kc (l:=l) (k:=x4.2) (xs:=[90,50,100,1]) (by decide) (by decide)
 generalize ofD l x4.2 [90,50,100,1] = x5 at *
 have r6:=Qo (l:=l) (k:=x5.2) (n:=8) (by omega) (by omega)
 generalize Qk l x5.2 8 = x6 at *
 have r7:=abx (l:=l) (k:=x6.2) (xs:=[[115],[116]]) (by decide) (by decide)
 generalize jC l x6.2 [[115],[116]] = x7 at *
 simp only [zC,zI,or_false] at r2 r3 r5 r7
 exact ⟨x2.1,x7.1,rfl,r2,r7,by omega,by omega,by omega,by omega,by omega⟩
theorem akj:QE 1 0 > 0∧QE 2 0 > 0∧QE 5 1024 > 0∧QE 5 2048 > 0∧QE 14 128 > 0∧(XY 5).kind = 2:=by decide +kernel
theorem ai0 {c:Int} (h:0≤c∧c < 4):QE (aps c).1 (aps c).2 > 0:=by
 obtain ⟨s1,s2,s3,s4,s5,_⟩:=akj
 obtain rfl|rfl|rfl|rfl:c = 0∨c = 1∨c = 2∨c = 3:=by omega
 ·exact s1
 ·exact s2
 ·exact s3
 ·exact s5
theorem abr (l:List Int) (k:Nat):JD (yX l k).1 = true∧(yX l k).1.Sz:=by
 obtain ⟨h,s,he,hh,hs,h1,h2,h3,h4,h5⟩:=ahv l k
 obtain ⟨n1,n2,n3,n4,n5⟩:=apT
 obtain ⟨_,_,s3,s4,_,c5⟩:=akj
 rw [yX]
 generalize (Js l k).2 = q
 revert he h1 h2 h3 h4 h5
 generalize (Js l k).1 = f
 intro he h1 h2 h3 h4 h5
 have hn:QT h = true:=by rcases hh with rfl|rfl|rfl<;>assumption
 have sn:QT s = true:=by rcases hs with rfl|rfl<;>assumption
 have hl:h.length < 2 ^ 60:=by rcases hh with rfl|rfl|rfl<;>decide
 have sl:s.length < 2 ^ 60:=by rcases hs with rfl|rfl<;>decide
 obtain ⟨src,host,mach,day,conf,kind,subj,alg,bits,num,text⟩:=f
 simp only [Qa.mk.injEq,true_and] at he
 obtain ⟨rfl,rfl,rfl,rfl,rfl,rfl⟩:=he
 dsimp only at h1 h2 h3 h4 h5
 have head:∀ g:Qa,g.src = src→g.host = host→g.mach = mach→g.day = day→g.conf = conf→g.subj = subj→g.text.length < 2 ^ 60→UH g = true→JD g = true∧g.Sz:=by
  intro g e1 e2 e3 e4 e5 e6 e7 e8
  refine ⟨?_,by rw [e2];exact hl,by rw [e6];exact sl,e7⟩
  rw [JD,e1,e2,e3,e4,e5,e6,e8,hn,sn]
  simp;omega
 have r4:=Qo (l:=l) (k:=q) (n:=4) (by omega) (by omega)
 have r5:=Qo (l:=l) (k:=q) (n:=5) (by omega) (by omega)
 have r3:=Qo (l:=l) (k:=q) (n:=3) (by omega) (by omega)
 have ro:=Kc (l:=l) (k:=q) (xs:=[1024,2048]) (by decide) (by decide)
 have rp:=Qo (l:=l) (k:=(ofD l q [1024,2048]).2) (n:=3) (by omega) (by omega)
 have rw_:=abx (l:=l) (k:=q) (xs:=[[97],[98]]) (by decide) (by decide)
 have us:=ai0 r4
 simp only [zC,zI,or_false] at ro rw_
 have hk:kind = 1∨kind = 2∨kind = 3∨kind = 4∨kind = 5∨kind = 6∨kind = 7∨kind = 8:=by omega
 have wn:QT (jC l q [[97],[98]]).1 = true:=by rcases rw_ with h|h<;>rw [h]<;>assumption
 have wl:(jC l q [[97],[98]]).1.length < 2 ^ 60:=by rcases rw_ with h|h<;>rw [h]<;>decide
 have os:QE 5 (ofD l q [1024,2048]).1 > 0:=by rcases ro with h|h<;>rw [h]<;>assumption
 rcases hk with rfl|rfl|rfl|rfl|rfl|rfl|rfl|rfl
 all_goals
  simp only [als,Int.reduceEq,or_true,true_or,or_self,if_true,if_false]
  refine head _ rfl rfl rfl rfl rfl rfl ?_ ?_
  ·first|exact wl|(show (0:Nat) < 2 ^ 60;decide)
  ·simp only [UH,ahe,Int.reduceEq,or_true,true_or,or_self,if_true,if_false]
   first|(simp [us];done)|(simp [os,c5];omega)|(simp [wn];done)|(simp;omega)
theorem akQ {α:Type} {p:α→Bool} {q:α→α→Bool} (tr:∀ a b c,q a b = true→q b c = true→q a c = true) (l:List α):∀ k,k≤l.length→(okP p q l k = true↔(∀ x∈l.take k,p x = true)∧(l.take k).Pairwise fun a b=>q a b = true)
 | 0,_=>by simp [aif]
 | k + 1,h=>by
   obtain ⟨x,hx⟩:∃ x,l[k]? = some x:=⟨_,zd (by omega)⟩
   rw [abn,hx,zR,hx,Option.toList_some,kP]
   dsimp only
   rw [zw,akQ tr l k (by omega),zw,kG]
   constructor
   ·rintro ⟨⟨h1,h2⟩,h3,h4⟩
    refine ⟨fun y hy=>(zY.1 hy).elim (h1 y) (fun e=>by rw [zu.1 e];exact h3),h2,List.pairwise_singleton _ _,fun y hy z hz=>?_⟩
    rw [zu.1 hz]
    rcases k with _|j
    ·simp at hy
    ·obtain ⟨u,hu⟩:∃ u,l[j]? = some u:=⟨_,zd (by omega)⟩
     rw [show j + 1 - 1 = j from rfl,hu] at h4
     have h4:q u x = true:=by rcases h4 with h4|h4;simp at h4;exact h4
     rw [zR,hu,Option.toList_some,kP] at h2
     rw [zR,hu,Option.toList_some] at hy
     rcases zY.1 hy with hy|hy
     ·exact tr y u x (h2.2.2 y hy u (zu.2 rfl)) h4
     ·rw [zu.1 hy];exact h4
   ·rintro ⟨h1,h2,_,h3⟩
    refine ⟨⟨fun y hy=>h1 y (kT _ hy),h2⟩,h1 x (Zd _ (zu.2 rfl)),?_⟩
    rcases k with _|j
    ·exact .inl rfl
    ·obtain ⟨u,hu⟩:∃ u,l[j]? = some u:=⟨_,zd (by omega)⟩
     rw [show j + 1 - 1 = j from rfl,hu]
     exact .inr (h3 u (by rw [zR,hu];exact Zd _ (zu.2 rfl)) x (zu.2 rfl))
theorem ahI:Cm aaS:=by
 have h0:Cm fun _ _:Qa=>(0:Int):=⟨fun _ _=>rfl,fun _ _ _ _ _=>Int.le_refl _,fun _ _ _ _ _ _=>rfl⟩
 exact (agv.by Qa.host).lex ((jx.by Qa.mach).lex ((jx.by Qa.day).lex ((agv.by Qa.subj).lex ((jx.by Qa.kind).lex ((jx.by Qa.alg).lex ((jx.by Qa.bits).lex ((jx.by Qa.num).lex ((agv.by Qa.text).lex ((jx.by Qa.src).lex ((jx.by Qa.conf).lex h0))))))))))
theorem ak1 (a b c:Qa) (h1:ltF a b = true) (h2:ltF b c = true):ltF a c = true:=by
 simp only [ltF,zy] at *
 have t:=ahI.tr a b c (by omega) (by omega)
 have z:=ahI.ze a b c (by omega) (by omega)
 omega
theorem abR (l:List Qa):afO l = true↔(∀ x∈l,JD x = true)∧l.Pairwise fun a b=>ltF a b = true:=by
 rw [afO,akQ ak1 l _ (zh _),zQ]
theorem afI (l:List Qa) (x:Qa):∀ k,k≤l.length→(∀ i,afk l x k≤i→i < k→∃ y,l[i]? = some y∧aaS y x > 0)∧(∀ j,afk l x k = j + 1→∃ y,l[j]? = some y∧¬ aaS y x > 0)
 | 0,_=>⟨fun i _ h=>absurd h (kZ _),fun j h=>by cases h⟩
 | k + 1,hk=>by
   obtain ⟨y,hy⟩:∃ y,l[k]? = some y:=⟨_,zd (by omega)⟩
   rw [afk,hy]
   dsimp only
   by_cases h:aaS y x > 0
   ·rw [if_pos h]
    obtain ⟨h1,h2⟩:=afI l x k (by omega)
    refine ⟨fun i hi hlt=>?_,h2⟩
    by_cases e:i = k
    ·subst e;exact ⟨y,hy,h⟩
    ·exact h1 i hi (by omega)
   ·rw [if_neg h]
    exact ⟨fun i h1 h2=>by omega,fun j hj=>by
     have e:k = j:=by omega
     subst e
     exact ⟨y,hy,h⟩⟩
theorem aho {l:List Qa} {x:Qa} (hs:l.Pairwise fun a b=>ltF a b = true) (hd:al3 l x = false):(ab3 l x).Pairwise fun a b=>ltF a b = true:=by
 obtain ⟨h1,h2⟩:=afI l x l.length (zh _)
 have hple:=ag9 l x l.length
 rw [ab3]
 rw [al3] at hd
 generalize afk l x l.length = p at *
 have hb:∀ y∈l.take p,ltF y x = true:=by
  intro y hy
  rcases p with _|j
  ·simp at hy
  ·obtain ⟨z,hz,hn⟩:=h2 j rfl
   dsimp only at hd
   rw [hz] at hd
   dsimp only at hd
   have hzx:ltF z x = true:=by simp at hd;simp only [ltF,zy];omega
   have hs2:=hs.sublist (Z6 (j + 1) l)
   rw [zR,hz,Option.toList_some] at hs2 hy
   rw [kP] at hs2
   rcases zY.1 hy with hy|hy
   ·exact ak1 y z x (hs2.2.2 y hy z (zu.2 rfl)) hzx
   ·rw [zu.1 hy];exact hzx
 have ha:∀ y∈l.drop p,ltF x y = true:=by
  intro y hy
  obtain ⟨i,hi⟩:=List.mem_iff_getElem?.1 hy
  rw [Ze] at hi
  obtain ⟨z,hz,hp⟩:=h1 (p + i) (by omega) (zn.1 hi).1
  rw [hi] at hz
  cases hz
  have:=ahI.neg y x
  simp only [ltF,zy];omega
 rw [kP]
 refine ⟨hs.sublist (Z6 _ _),ZD.2 ⟨ha,hs.sublist (List.drop_sublist _ _)⟩,fun y hy z hz=>?_⟩
 rcases zC.1 hz with rfl|hz
 ·exact hb y hy
 ·exact ak1 y x z (hb y hy) (ha z hz)
theorem amR {l:List Qa} {x y:Qa} (h:y∈ab3 l x):y = x∨y∈l:=by
 rw [ab3] at h
 rcases zY.1 h with h|h
 ·exact .inr (zF h)
 ·rcases zC.1 h with h|h
  ·exact .inl h
  ·exact .inr (zJ h)
theorem aiy {P:Qa→Prop}:∀ (l out:List Qa),(∀ x∈l,P x)→(∀ x∈out,P x)→(out.Pairwise fun a b=>ltF a b = true)→(∀ x∈l.foldl aaO out,P x)∧(l.foldl aaO out).Pairwise fun a b=>ltF a b = true
 | [],out,_,h2,h3=>⟨h2,h3⟩
 | x :: r,out,h1,h2,h3=>by
   rw [List.foldl_cons]
   refine aiy r _ (fun y hy=>h1 y (kR _ hy)) ?_ ?_
   ·rw [aaO];split
    ·exact h2
    ·intro y hy
     rcases amR hy with rfl|hy
     ·exact h1 _ kQ
     ·exact h2 y hy
   ·rw [aaO];split
    ·exact h3
    ·rename_i hd;exact aho h3 (by simpa using hd)
theorem aih {P:Qa→Prop} {l:List Qa} (h:∀ x∈l,P x):(∀ x∈J8 l,P x)∧(J8 l).Pairwise fun a b=>ltF a b = true:=aiy l [] h (by simp) List.Pairwise.nil
theorem ajn {l:List Qa} (h:∀ x∈l,JD x = true) (hl:l.length≤400):YL (J8 l) = true:=by
 rw [YL,zw,abR,zy]
 have:=abS l
 exact ⟨aih h,by omega⟩
theorem alr {l:List Int} {k:Nat} {most:Int} (hk:k≤l.length) (hm:0≤most∧most≤100) :
  (∀ x∈(xX l k most).1,x.Sz)∧YL (xX l k most).1 = true∧(xX l k most).1.length≤most.toNat∧(xX l k most).2≤l.length:=by
 have hr:=Qo (l:=l) (k:=k) (n:=most + 1) (by omega) (by omega)
 have hq:=QG (n:=most + 1) hk
 rw [xX]
 generalize Qk l k (most + 1) = x at *
 have hlen:=acB l x.1.toNat x.2
 have hn:=abS (UG l x.1.toNat x.2).1
 refine ⟨(aih (jZ (fun k _=>(abr l k).2) _ hq)).1,ajn (jZ (fun k _=>(abr l k).1) _ hq) (by omega),by dsimp only;omega,aeT _ hq⟩
def fnS (l:List Int) (m:Nat) (x:List Qa×Nat):St:=Jk [(0,.ptr 0 0),(5,.hd 1 0 x.1.length),(6,V.int m)] [(0,.box true (QH l x.2)),(1,.buf true 11 (x.1.map Qa.v))] 2
def WV:=qd Proofs.Tryz.f9 []
def Us (Γ:Env) (f:Nat):Prop:=(∀ (l:List Int) (k:Nat) (most:Int) (hl:l.length≤400) (hk:k≤l.length) (hm:0≤most∧most≤100),aqD Γ f [V.int most] (QH l k) 11 ((xX l k most).1.map Qa.v) (QH l (xX l k most).2))
attribute [local go_sem] QH Jk in
theorem aa4 {Γ:Env} {f:Nat} (h:Has Γ.P f 28 WV.1.1.ac WV.1.2) (z0:Q3 Γ 10) (z1:Kz Γ 26) (z2:U2 Γ 25):Us Γ f:=by
 intro l k most hl hk hm
 refine agf h (by simp) (Xd _ _) (Xd _ _) (by simp only [V.closed,Qc,and_self]) fun C hC hm=>?_
 subst hC;simp only [WV,qd,DC.ac]
 have n1:=z0 l k (most + 1) hl hk
 have r1:=Qo (l:=l) (k:=k) (n:=most + 1) (by omega) (by omega)
 have k1:=QG (n:=most + 1) hk
 have hwm:IntKind.i64.wrap (most + 1) = most + 1:=QP (by omega) (by omega)
 simp only [xX]
 generalize Qk l k (most + 1) = x1 at *
 obtain ⟨a1,q1⟩:=x1
 simp only at n1 r1 k1 ⊢
 obtain ⟨n,rfl⟩:∃ n:Nat,a1 = n:=⟨a1.toNat,by omega⟩
 rw [Int.toNat_natCast]
 simp only [QH,zN,zL] at n1
 (have zx:=hwm);refine zgo ?_;repeat' first|exact zt|apply zan|intro hc
 refine Qp (ι:=Nat) (fun j=>j≤n) (fun j=>fnS l (n - j) (UG l j q1)) (fun j=>n - j) 0 (zG _) (Qd [(1,1001)]) (Qh [(1,1001)] (by simp only [go_sem,zwl,fnS,UG,List.length_nil]<;>exact zcc) (by simp only [go_sem,zwl,fnS,UG,QH,zL,zN]<;>exact zcc) (by simp [fnS,Qd]) (by simp [fnS];omega) (by omega)) fun j hj K' hL=>?_
 have hlen:=acB l j q1
 have hle:=aeT (l:=l) j k1
 rcases kI j n with hlt|hge
 rotate_left
 ·obtain rfl:j = n:=by omega
  have e1:decide (((j - j:Nat):Int) > 0) = false:=by simp
  have gN:=z2 (UG l j q1).1 (by omega) (jZ (fun k _=>(abr l k).2) _ k1) (jZ (fun k _=>(abr l k).1) _ k1)
  have htl:List.take (UG l j q1).1.length ((UG l j q1).1.map Qa.v) = (UG l j q1).1.map Qa.v:=zl (by simp)
  simp only [fnS]
  generalize UG l j q1 = x at *
  have hnl:((J8 x.1).map Qa.v).length = (J8 x.1).length:=zb _
  repeat' (first|(refine zsk ?_;intro K' hK)|refine zsp ?_|(refine zsc ?_ ?_<;>intro hc<;>first|exact znh|try simp only [znz] at hc)|simp (maxSteps:=1000000) only [go_sem,Jk,e1,htl,QH]|(refine hK _ ?_;clear hK K')|apply zan|(apply aqh;(focus first|exact gN))|exact zsq|fail)
  all_goals first|(refine aoZ (xs:=(J8 x.1).map Qa.v) _ _ rfl rfl rfl rfl (Xd _ _) ?_<;>first|rfl|exact hnl|exact hnl.symm|(simp;done))
 ·have e1:decide (((n - j:Nat):Int) > 0) = true:=by simp;omega
  have hw:IntKind.i64.wrap (((n - j:Nat):Int) - 1) = ((n - (j + 1):Nat):Int):=by rw [QP (by omega) (by omega)];omega
  have hsn:=ad5 l j q1
  have nF:=z1 l (UG l j q1).2 hl hle
  simp only [fnS]
  generalize UG l j q1 = x at *
  obtain ⟨out,q⟩:=x
  simp only at hlen hle hsn nF ⊢
  generalize yX l q = y at *
  obtain ⟨f,q2⟩:=y
  simp only [Qa.v,Qa.cells,QH,zN,zL] at nF hsn
  have hol:(out.map Qa.v).length = out.length:=zb _
  have htl:List.take out.length (out.map Qa.v) = out.map Qa.v:=zl (by simp)
  (have zx:=za e1 (za hw (za hol htl)));refine zgo ?_;repeat' first|exact zt|apply zan|intro hc
  all_goals exact hL _ (j + 1) (Qd [(1,6002)]) (by omega) (by omega) (Qh [(1,6002)] (by simp only [go_sem,zwl,fnS,hsn,zv,List.length_cons,List.length_nil]<;>exact zcc) (by simp only [go_sem,zwl,fnS,hsn,QH,kz,zN,zL,Qa.v,Qa.cells]<;>exact zcc) (by simp [fnS,Qd]) (by simp [fnS];omega) (by omega))
def yS (l:List Qa) (gap:Int) (r:List Nat) (k:Nat):Nat:=match l[k]? with
 | none=>k
 | some f=>if KP l gap f≠0 then WL l gap (KP l gap f) k k else match Vz l gap f k with
   | none=>k
   | some j=>match l[j]? with
     | some g=>if f.day - g.day≤gap then r.getD j 0 else k
     | none=>k
def amh (l:List Qa) (gap:Int):Nat→List Nat
 | 0=>[]
 | k + 1=>amh l gap k++[yS l gap (amh l gap k) k]
def rep (l:List Qa) (gap:Int) (k:Nat):Nat:=yS l gap (amh l gap k) k
theorem yp (l:List Qa) (gap:Int):∀ k,(amh l gap k).length = k
 | 0=>rfl
 | k + 1=>by rw [amh,zv,yp l gap k];rfl
theorem xK (l:List Qa) (gap:Int):∀ (k j:Nat),j < k→(amh l gap k)[j]? = some (rep l gap j)
 | 0,j,h=>absurd h (kZ _)
 | k + 1,j,h=>by
   rw [amh]
   by_cases hj:j < k
   ·rw [ka (by rw [yp];exact hj)]
    exact xK l gap k j hj
   ·obtain rfl:j = k:=by omega
    rw [ki (by rw [yp];exact zh _),yp,kD];rfl
theorem Wj (l:List Qa) (gap:Int) (f:Qa):∀ n,match Vz l gap f n with
  | some j=>j < n∧UA l gap f j = true∧∀ i,j < i→i < n→UA l gap f i = false
  | none=>∀ i,i < n→UA l gap f i = false
 | 0=>fun i h=>absurd h (kZ _)
 | n + 1=>by
   have ih:=Wj l gap f n
   rw [Vz]
   rcases hb:UA l gap f n with _|_
   ·rw [if_neg (by simp)]
    rcases hk:Vz l gap f n with _|j
    ·rw [hk] at ih
     intro i hi
     by_cases h:i < n
     ·exact ih i h
     ·obtain rfl:i = n:=by omega
      exact hb
    ·rw [hk] at ih
     obtain ⟨h1,h2,h3⟩:=ih
     refine ⟨by omega,h2,fun i hi hi2=>?_⟩
     by_cases h:i < n
     ·exact h3 i hi h
     ·obtain rfl:i = n:=by omega
      exact hb
   ·rw [if_pos rfl]
    exact ⟨Nat.lt_succ_self _,hb,fun i h1 h2=>by omega⟩
theorem yW (l:List Qa) (gap m:Int) (i:Nat):∀ n,n≤i→WL l gap m i n≤i∧(WL l gap m i n < i→atM l gap (WL l gap m i n) = m)∧∀ j,i - n≤j→j < WL l gap m i n→atM l gap j≠m
 | 0,_=>⟨zh _,fun h=>absurd h (Nat.lt_irrefl _),fun j h1 h2=>by rw [WL] at h2;omega⟩
 | n + 1,hn=>by
   obtain ⟨h1,h2,h3⟩:=yW l gap m i n (by omega)
   rw [WL]
   by_cases h:atM l gap (i - (n + 1)) = m
   ·rw [if_pos h]
    exact ⟨by omega,fun _=>h,fun j a b=>by omega⟩
   ·rw [if_neg h]
    refine ⟨h1,h2,fun j a b=>?_⟩
    by_cases hj:j = i - (n + 1)
    ·subst hj;exact h
    ·exact h3 j (by omega) b
theorem anK (l:List Qa) (gap:Int) (k:Nat):rep l gap k≤k:=by
 induction k using Nat.strongRecOn with
 | _ k ih =>
   rw [rep,yS]
   split
   ·exact zh _
   ·rename_i f hf
    split
    ·exact (yW l gap (KP l gap f) k k (zh _)).1
    ·have hs:=Wj l gap f k
     split
     ·exact zh _
     ·rename_i j hj
      rw [hj] at hs
      split
      ·split
       ·rw [zK,xK l gap k j hs.1]
        have:=ih j hs.1
        exact Zf this (Nat.le_of_lt hs.1)
       ·exact zh _
      ·exact zh _
theorem adG (l:List Qa) (gap:Int):∀ k,k≤l.length→J5 l gap k = (amh l gap k).map fun n:Nat=>(n:Int)
 | 0,_=>rfl
 | k + 1,h=>by
   have ih:=adG l gap k (by omega)
   have hg:l[k]? = some l[k]:=zd (by omega)
   generalize l[k] = f at hg
   rw [J5,hg]
   simp only
   rw [amh,kz,ih]
   congr 1
   simp only [zN,zL,kw,and_true]
   rw [yS,hg,jR]
   simp only
   split
   ·rfl
   ·have hs:=Wj l gap f k
    rcases hk:Vz l gap f k with _|j
    ·rfl
    ·rw [hk] at hs
     have hj:l[j]? = some (l[j]'(by omega)):=zd (by omega)
     dsimp only
     rw [hj]
     dsimp only
     split
     ·have h1:=xK l gap k j hs.1
      rw [zK,zK,aaR,ka (by rw [zb,yp];exact hs.1),zi,h1];rfl
     ·rfl
theorem ag2 {l:List Qa} {gap:Int} {x:Nat} {f:Qa} (h:l[x]? = some f) (hm:KP l gap f≠0):atM l gap (rep l gap x) = KP l gap f∧∀ j,j < rep l gap x→atM l gap j≠KP l gap f:=by
 have e:rep l gap x = WL l gap (KP l gap f) x x:=by rw [rep,yS,h];simp only;rw [if_pos hm]
 obtain ⟨h1,h2,h3⟩:=yW l gap (KP l gap f) x x (zh _)
 rw [e]
 refine ⟨?_,fun j hj=>h3 j (by omega) hj⟩
 rcases kI (WL l gap (KP l gap f) x x) x with h4|h4
 ·exact h2 h4
 ·have h5:WL l gap (KP l gap f) x x = x:=by omega
  rw [h5,atM,h]
theorem ah5 {l:List Qa} {gap:Int} {x y:Nat} {f g:Qa} (hx:l[x]? = some f) (hy:l[y]? = some g) (hm:KP l gap f≠0) (he:KP l gap f = KP l gap g):rep l gap x = rep l gap y:=by
 obtain ⟨a1,a2⟩:=ag2 hx hm
 obtain ⟨b1,b2⟩:=ag2 hy (by rw [← he];exact hm)
 rcases Zk (rep l gap x) (rep l gap y) with h|h|h
 ·exact absurd (a1.trans he) (b2 _ h)
 ·exact h
 ·exact absurd (b1.trans he.symm) (a2 _ h)
theorem abT (l:List Qa) (f:Qa) (gap:Int):∀ k,Uz l f gap k = -1∨∃ (n:Nat) (g:Qa),Uz l f gap k = n∧l[n]? = some g∧g.mach≠0
 | 0=>.inl rfl
 | k + 1=>by
   have ih:=abT l f gap k
   rw [qU]
   rcases hg:l[k]? with _|g
   ·rw [VT,hg];exact ih
   ·rw [aax hg]
    rcases hc:((g.mach == 0) || ((g.host != f.host) || decide (awI g.day f.day > gap))) with _|_
    ·rw [if_neg (by simp)]
     have hm:g.mach≠0:=by
      intro h;rw [h] at hc;simp at hc
     have me:∃ (n:Nat) (q:Qa),(k:Int) = n∧l[n]? = some q∧q.mach≠0:=⟨k,g,rfl,hg,hm⟩
     by_cases h4:Uz l f gap k < 0
     ·rw [if_pos h4];exact .inr me
     ·rw [if_neg h4]
      rcases ih with ih|⟨n,q,e1,e2,e3⟩
      ·omega
      ·rw [e1,Int.toNat_natCast,e2]
       simp only
       split
       ·exact .inr me
       ·exact .inr ⟨n,q,rfl,e2,e3⟩
    ·rw [if_pos rfl];exact ih
theorem vC (l:List Qa) (f:Qa) (gap:Int):Xi l f gap = -1∨∃ (n:Nat) (g:Qa),Xi l f gap = n∧l[n]? = some g∧g.mach≠0:=abT l f gap l.length
theorem yB {l:List Qa} {gap:Int} {f:Qa} (h:f.mach≠0):KP l gap f = f.mach:=by rw [KP,if_pos h]
theorem acz {l:List Qa} {gap:Int} {f g:Qa} {n:Nat} (h:f.mach = 0) (hn:Xi l f gap = n) (hg:l[n]? = some g):KP l gap f = g.mach:=by
 rw [KP,if_neg (by simpa using h),hn,Int.toNat_natCast,hg]
 simp only
 rw [if_pos (by omega)]
theorem agn {l:List Qa} {gap:Int} {f:Qa} (h:f.mach = 0) (hn:Xi l f gap < 0):KP l gap f = 0:=by
 rw [KP,if_neg (by simpa using h)]
 split
 ·rw [if_neg (by omega)]
 ·rfl
theorem qD {p:List Nat} (hp:PW p) {i k:Nat} (hi:i < 400) (hk:k < 400):∀ x,Qn (qE p i k) x = if Qn p x = max (Qn p i) (Qn p k) then min (Qn p i) (Qn p k) else Qn p x:=by
 have hM:Qn p (max (Qn p i) (Qn p k)) = max (Qn p i) (Qn p k):=by
  rcases Nat.le_total (Qn p i) (Qn p k) with h|h
  ·rw [Nat.max_eq_right h];exact U5 hp k
  ·rw [Nat.max_eq_left h];exact U5 hp i
 have hm:Qn p (min (Qn p i) (Qn p k)) = min (Qn p i) (Qn p k):=by
  rcases Nat.le_total (Qn p i) (Qn p k) with h|h
  ·rw [kJ h];exact U5 hp i
  ·rw [Nat.min_eq_right h];exact U5 hp k
 have h1:=KL hp i
 have h2:=KL hp k
 have hp':=abp hp i k
 have hle:min (Qn p i) (Qn p k)≤max (Qn p i) (Qn p k):=by omega
 have hlt:max (Qn p i) (Qn p k) < p.length:=by rw [hp.len];omega
 have hget:∀ x,(qE p i k)[x]? = if max (Qn p i) (Qn p k) = x then some (min (Qn p i) (Qn p k)) else p[x]?:=fun x=>by
  rw [qE,ke]
  by_cases h:max (Qn p i) (Qn p k) = x
  ·rw [if_pos h,if_pos h,if_pos hlt]
  ·rw [if_neg h,if_neg h]
 generalize max (Qn p i) (Qn p k) = M at *
 generalize min (Qn p i) (Qn p k) = m at *
 intro x
 induction x using Nat.strongRecOn with
 | _ x ih =>
   by_cases hx:M = x
   ·subst hx
    have e:(qE p i k)[M]? = some m:=by rw [hget,if_pos rfl]
    rw [Wy hp' e,hM,if_pos rfl]
    by_cases hmM:m = M
    ·rw [if_pos hmM,hmM]
    ·rw [if_neg hmM,ih m (by omega),hm]
     split
     ·rfl
     ·rfl
   ·have e:=hget x
    rw [if_neg hx] at e
    rcases hpx:p[x]? with _|j
    ·have a1:Qn p x = x:=by rw [Qn,abF,hpx]
     rw [hpx] at e
     have a2:Qn (qE p i k) x = x:=by rw [Qn,abF,e]
     rw [a1,a2,if_neg (fun h=>hx h.symm)]
    ·rw [hpx] at e
     rw [Wy hp' e,Wy hp hpx]
     by_cases hjx:j = x
     ·rw [if_pos hjx,if_pos hjx,if_neg (fun h=>hx h.symm)]
     ·have:=hp.le x j hpx
      rw [if_neg hjx,if_neg hjx]
      exact ih j (by omega)
theorem VE {p:List Nat} (hp:PW p) {i k x y:Nat} (hi:i < 400) (hk:k < 400) (h:Qn p x = Qn p y):Qn (qE p i k) x = Qn (qE p i k) y:=by
 rw [qD hp hi hk,qD hp hi hk,h]
theorem vI {p:List Nat} (hp:PW p) {i k:Nat} (hi:i < 400) (hk:k < 400):Qn (qE p i k) i = Qn (qE p i k) k:=by
 rw [qD hp hi hk,qD hp hi hk]
 rcases Nat.le_total (Qn p i) (Qn p k) with h|h
 ·rw [Nat.max_eq_right h,kJ h,if_pos rfl]
  split<;>rfl
 ·rw [Nat.max_eq_left h,Nat.min_eq_right h,if_pos rfl]
  split<;>rfl
structure UI (l:List Qa) (gap:Int) (k:Nat) (s:JS):Prop where
 rp:∀ x,rep l gap (Qn s.p x) = rep l gap x
 vs:∀ (a v:Nat),s.vs[a]? = some v→∃ (g:Qa) (m:Int),s.ks[a]? = some m∧l[v]? = some g∧g.mach = m
 key:∀ (x:Nat) (g:Qa),x < k→l[x]? = some g→g.mach≠0→∃ a v:Nat,ac2 g.mach s.ks 0 = some a∧s.vs[a]? = some v∧Qn s.p x = Qn s.p v
 near:∀ (x n:Nat) (g:Qa),x < k→l[x]? = some g→g.mach = 0→Xi l g gap = n→Qn s.p x = Qn s.p n
 lo:∀ (x:Nat) (g:Qa),x < k→l[x]? = some g→g.mach = 0→Xi l g gap < 0→(x:Int)≤s.loose
 lt:∀ n:Nat,s.loose = n→∃ g:Qa,l[n]? = some g∧g.mach = 0∧Xi l g gap < 0
 lnk:∀ (x j:Nat) (f g:Qa),x < k→l[x]? = some f→f.mach = 0→Xi l f gap < 0→Vz l gap f x = some j→l[j]? = some g→f.day - g.day≤gap→Qn s.p x = Qn s.p j
theorem ais {k:Int}:∀ {ks:List Int} {i a:Nat},ac2 k ks i = some a→ks[a - i]? = some k
 | [],_,_,h=>by cases h
 | e :: r,i,a,h=>by
   rw [ac2] at h
   split at h
   ·rename_i he;cases h;rw [kD,he];rfl
   ·have h1:=(aey h).1
    have h2:=ais h
    rw [show a - i = (a - (i + 1)) + 1 by omega,List.getElem?_cons_succ]
    exact h2
theorem ait {k:Int}:∀ {ks:List Int} {i a:Nat} (r:List Int),ac2 k ks i = some a→ac2 k (ks++r) i = some a
 | [],_,_,_,h=>by cases h
 | e :: l,i,a,r,h=>by
   rw [ac2] at h
   rw [List.cons_append,ac2]
   split at h
   ·rename_i he;rw [if_pos he];exact h
   ·rename_i he;rw [if_neg he];exact ait r h
theorem air {k:Int}:∀ {ks:List Int} {i:Nat},ac2 k ks i = none→ac2 k (ks++[k]) i = some (i + ks.length)
 | [],i,_=>by simp [ac2]
 | e :: l,i,h=>by
   rw [ac2] at h
   split at h
   ·cases h
   ·rename_i he
    rw [List.cons_append,ac2,if_neg he,air h]
    simp only [List.length_cons];congr 1;omega
theorem yw {l:List Qa} {gap:Int} {f g:Qa} {k:Nat} (h:l[k]? = some g):UA l gap f k = true↔g.host = f.host∧g.mach = 0∧Xi l g gap < 0:=by
 rw [UA,h]
 simp only [zw,kF,zy]
end Av
end
