/- K30 -/
import Derived.Test.YtlpaikjhphkioaaGreatK29
import Derived.Test.YtlpaikjhphkioaaGreatK12
set_option linter.unusedVariables false
set_option linter.unusedSimpArgs false
noncomputable section
set_option maxRecDepth 10000
set_option maxHeartbeats 4000000
namespace Av
open Go
attribute [local irreducible] AWp Uv qW xf awS awC abB awQ acd QZ UL aa2 awR Kc awB okR yu ris
def aco (out:List Qa) (x:Qa):List Qa:=if aoh out x = true then out else adG out x
def YI (l:List Qa):List Qa:=l.foldl aco []
theorem akk (l:List Qa) (x:Qa):(adG l x).length = l.length + 1:=by
 have:=ai2 l x l.length
 simp [adG];omega
theorem ahd (l:List Qa) (x:Qa):(aco l x).length≤l.length + 1:=by
 unfold aco;split
 ·omega
 ·rw [akk];exact zj _
theorem ahW:∀ (l out:List Qa),(l.foldl aco out).length≤out.length + l.length
 | [],out=>by simp
 | x :: r,out=>by
   have h1:=ahW r (aco out x)
   have h2:=ahd out x
   simp only [List.foldl_cons,List.length_cons];omega
theorem adu (l:List Qa):(YI l).length≤l.length:=by simpa [YI] using ahW l []
theorem alq {l:List Qa} {k:Nat} {x:Qa} (h:l[k]? = some x):YI (l.take (k + 1)) = aco (YI (l.take k)) x:=by
 rw [YI,YI,zO,h,Option.toList_some,Zo];rfl
def noS (l out:List Qa) (k:Nat):St:=Ju [(0,.sl 11 (l.map Qa.v)),(6,.hd 0 0 out.length),(7,V.int k)] [(0,.buf true 11 (out.map Qa.v))] 1
def jp:=qd Proofs.Tryz.f25 []
def K8 (Γ:Env) (f:Nat):Prop:=(∀ (l:List Qa) (hl:l.length≤400) (hz:∀ x∈l,x.Sz) (hq:∀ x∈l,JC x = true),EvE Γ f [.sl 11 (l.map Qa.v)] 11 ((YI l).map Qa.v))
attribute [local go_sem] Ju in
theorem agv {Γ:Env} {f:Nat} (h:Has Γ.P f 38 jp.1.1.ac jp.1.2) (z0:U8 Γ 55) (z1:x9 Γ 56):K8 Γ f:=by
 intro l hl hz hq
 refine ajx h (by simp) (fun x hx=>by obtain ⟨y,_,rfl⟩:=zE.1 hx;simp only [Qa.v,Qa.cells,V.noSl,WP,and_self]) fun C hC hm=>?_
 subst hC;simp only [jp,qd,DC.ac]
 have hal:(l.map Qa.v).length = l.length:=zb _
 refine zgo ?_;repeat' first|exact zt|apply zan|intro hc
 refine Qx (ι:=Nat) (fun k=>k≤l.length) (fun k=>[(4,V.int k)]) (fun k=>l.length - k) 0 (by omega) (zH _) zol zlt zet fun k hk K' hL=>?_
 simp only [ovT,JQ,Nat.reduceEqDiff,reduceIte]
 rcases hdr:l.drop k with _|⟨x,r⟩
 rotate_left
 ·obtain ⟨hk',hget,hr⟩:=Ql hdr
  have hw:=Qf (k:=k) (by omega)
  have e1:decide ((k:Int) < (l.length:Int)) = true:=by simp;omega
  have vx:(l.map Qa.v)[k]? = some x.v:=by rw [zf,hget];rfl
  have hm:=zu hget
  have p1:=(z0 x (hz x hm) (hq x hm)).b
  have n0:((0:Int) != 0) = false:=by decide
  simp only [Qa.v,Qa.cells] at vx p1
  (have zx:=za e1 (za hal (za hw (za vx n0))));refine zgo ?_;repeat' first|exact zt|apply zan|intro hc
  all_goals exact hL _ (k + 1) zet (by omega) (by omega) zoe
 have hkl:=Qs hdr
 have e1:decide ((k:Int) < (l.length:Int)) = false:=by simp;omega
 clear hL
 (have zx:=za e1 hal);refine zgo ?_;repeat' first|exact zt|apply zan|intro hc
 refine Qo (ι:=Nat) (fun k=>k≤l.length) (fun k=>noS l (YI (l.take k)) k) (fun k=>l.length - k) 0 (zH _) (Qe [(0,7000)]) (Qg [(0,7000)] (by simp only [go_sem,zwl,noS,YI,List.take_zero,List.foldl_nil,List.length_nil]<;>exact zcc) (by simp only [go_sem,zwl,noS,YI,List.take_zero,List.foldl_nil,zK]<;>exact zcc) (by simp [noS,Qe]) (by simp [noS];omega) (by omega)) fun k hk K' hL=>?_
 have hnk:=adu (l.take k)
 rw [zQ,kQ hk] at hnk
 rcases hdr:l.drop k with _|⟨x,r⟩
 ·have hkl:=Qs hdr
  have e1:decide ((k:Int) < (l.length:Int)) = false:=by simp;omega
  obtain rfl:k = l.length:=by omega
  rw [zR] at hnk ⊢
  simp only [noS]
  have htl:List.take (YI l).length ((YI l).map Qa.v) = (YI l).map Qa.v:=zh (by simp)
  have hmm:(YI l).length = ((YI l).map Qa.v).length:=(zb _).symm
  (have zx:=za e1 (za hal htl));refine zgo ?_;repeat' first|exact zt|apply zan|intro hc
  all_goals first|(refine asi (xs:=(YI l).map Qa.v) _ _ rfl ?_ ?_<;>first|exact hmm|exact hmm.symm|rfl|(simp;done))
 obtain ⟨hk',hget,hr⟩:=Ql hdr
 have hw:=Qf (k:=k) (by omega)
 have e1:decide ((k:Int) < (l.length:Int)) = true:=by simp;omega
 have vx:(l.map Qa.v)[k]? = some x.v:=by rw [zf,hget];rfl
 have hsu:=alq hget
 have hsl:=ahd (YI (l.take k)) x
 simp only [noS]
 rcases hd:aoh (YI (l.take k)) x with _|_
 ·have gW:=z1.2 (YI (l.take k)) x (by omega) hd
  have hst:YI (l.take (k + 1)) = adG (YI (l.take k)) x:=by rw [hsu,aco,hd];rfl
  have hil:=akk (YI (l.take k)) x
  have e2:decide ((((adG (YI (l.take k)) x).length:Nat):Int) > 400) = false:=by simp;omega
  have hml:((adG (YI (l.take k)) x).map Qa.v).length = (adG (YI (l.take k)) x).length:=zb _
  have hol:((YI (l.take k)).map Qa.v).length = (YI (l.take k)).length:=zb _
  have htl:List.take (YI (l.take k)).length ((YI (l.take k)).map Qa.v) = (YI (l.take k)).map Qa.v:=zh (by simp)
  generalize adG (YI (l.take k)) x = ins at *
  generalize YI (l.take k) = out at *
  simp only [Qa.v,Qa.cells] at vx gW
  (have zx:=za e1 (za e2 (za hal (za hw (za vx (za hml (za hol htl)))))));refine zgo ?_;repeat' first|exact zt|apply zan|intro hc
  all_goals exact hL _ (k + 1) (Qe [(0,9001)]) (by omega) (by omega) (Qg [(0,9001)] (by simp only [go_sem,zwl,noS,hst,hal]<;>exact zcc) (by simp only [go_sem,zwl,noS,hst]<;>exact zcc) (by simp [noS,Qe]) (by simp [noS];omega) (by omega))
 ·have gX:=z1.1 (YI (l.take k)) x (by omega) hd
  have hst:YI (l.take (k + 1)) = YI (l.take k):=by rw [hsu,aco,hd];rfl
  have e2:decide ((((YI (l.take k)).length:Nat):Int) > 400) = false:=by simp;omega
  have hol:((YI (l.take k)).map Qa.v).length = (YI (l.take k)).length:=zb _
  generalize YI (l.take k) = out at *
  simp only [Qa.v,Qa.cells] at vx gX
  repeat' (first|(refine zsk ?_;intro K' hK)|refine zsp ?_|(refine zsc ?_ ?_<;>intro hc<;>first|exact znh|try simp only [znz] at hc)|simp (maxSteps:=1000000) only [go_sem,Ju,e1,e2,hal,hw,vx,hol,Int.toNat_natCast]|(refine hK _ ?_;clear hK K')|apply zan|(apply ace;(focus exact rfl);(focus first|exact gX);(focus exact rfl);(focus exact rfl);(focus (first|exact rfl|(simp;done))))|(apply QF;(focus first|exact (z0 _ zsd zsd).b))|exact zsq|fail)
  all_goals exact hL _ (k + 1) (Qe []) (by omega) (by omega) (Qg [] (by simp only [go_sem,zwl,noS,hst,hal]<;>exact zcc) (by simp only [go_sem,zwl,noS,hst]<;>exact zcc) (by simp [noS,Qe]) (by simp [noS]) (by omega))
def UZ:=qd Proofs.Tryz.f45 [zhn 23]
def X0 (Γ:Env) (f:Nat):Prop:=∀ (l:List Qa) (hl:l.length < 2 ^ 40) (hz:∀ x∈l,x.Sz) (hq:∀ x∈l,JC x = true),EvN Γ f [.sl 11 (l.map Qa.v)] (V.bool (Y1 l))
theorem adX {Γ:Env} {f:Nat} (h:Has Γ.P f 36 UZ.1.1.ac UZ.1.2) (z0:U8 Γ 55) (z1:U7 Γ 78):X0 Γ f:=by
 intro l hl hz hq
 refine Qb h zsi zcl zcl fun C hC hm=>?_
 subst hC
 simp only [UZ,qd,DC.ac]
 have hal:(l.map Qa.v).length = l.length:=zb _
 rcases h4:decide ((l.length:Int) > 400) with _|_
 rotate_left
 ·have hn:Y1 l = false:=by rw [Y1];simp at h4;simp;omega
  rw [hn]
  (have zx:=za hal h4);exact zg
 have hn4:Y1 l = ahw l:=by rw [Y1];simp at h4;simp;omega
 (have zx:=za hal h4);refine zgo ?_;repeat' first|exact zt|apply zan|intro hc
 refine Qx (ι:=Nat) (fun k=>k≤l.length∧okP JC ltF l k = true) (fun k=>[(3,V.int k)]) (fun k=>l.length - k) 0 (by omega) ⟨zH _,rfl⟩ zol zlt zet fun k hk K' hL=>?_
 obtain ⟨hk,hinv⟩:=hk
 simp only [ovT,JQ,Nat.reduceEqDiff,reduceIte]
 rcases hd:l.drop k with _|⟨x,r⟩
 ·have hkl:=Qs hd
  have e1:decide ((k:Int) < (l.length:Int)) = false:=by simp;omega
  obtain rfl:k = l.length:=by omega
  rw [hn4,ahw,hinv]
  (have zx:=za e1 hal);exact zg
 ·obtain ⟨hk',hget,hr⟩:=Ql hd
  have hw:=Qf (k:=k) (by omega)
  have e1:decide ((k:Int) < (l.length:Int)) = true:=by simp;omega
  have hm:=zu hget
  have p1:=(z0 x (hz x hm) (hq x hm)).b
  have n0:((0:Int) != 0) = false:=by decide
  have vx:(l.map Qa.v)[k]? = some x.v:=by rw [zf,hget];rfl
  have hbad:okP JC ltF l (k + 1) = false→Y1 l = false:=fun h=>by rw [hn4,ahw,am2 h (by omega)]
  simp only [Qa.v,Qa.cells] at vx p1
  rcases k with _|k
  ·have hw0:IntKind.i64.wrap 1 = ((1:Nat):Int):=by decide
   have hg1:okP JC ltF l (0 + 1) = true:=by rw [am0 hget,hq x hm]
   have e2:decide (((0:Nat):Int) > 0) = false:=rfl
   (have zx:=za e1 (za e2 (za hal (za hw (za hw0 (za vx n0))))));refine zgo ?_;repeat' first|exact zt|apply zan|intro hc
   all_goals exact hL _ 1 zet ⟨by omega,hg1⟩ (by omega) zoe
  ·have e2:decide (((k + 1:Nat):Int) > 0) = true:=zo (by omega)
   have hw2:IntKind.i64.wrap (((k + 1:Nat):Int) - 1) = (k:Int):=by rw [QG (by omega) (by omega)];omega
   obtain ⟨y,hgy⟩:∃ y,l[k]? = some y:=⟨_,zd (by omega)⟩
   have vy:(l.map Qa.v)[k]? = some y.v:=by rw [zf,hgy];rfl
   have hnext:=akc (p:=JC) (q:=ltF) hget hgy
   rw [hinv,hq x hm] at hnext
   have ho:=(z1 y x).b
   simp only [Qa.v,Qa.cells] at ho vy
   rcases hb:ltF y x with _|_
   ·have e3:decide (acs y x≥0) = true:=by
     rw [ltF,zP] at hb
     exact zo (by omega)
    rw [hbad (by rw [hnext,hb];rfl)]
    generalize acs y x = oo at *
    (have zx:=za e1 (za e2 (za e3 (za hal (za hw (za hw2 (za vx (za vy n0))))))));exact zg
   ·have e3:decide (acs y x≥0) = false:=by
     rw [ltF,decide_eq_true_iff] at hb
     exact zp (by omega)
    have hg2:okP JC ltF l (k + 2) = true:=by rw [hnext,hb];rfl
    generalize acs y x = oo at *
    (have zx:=za e1 (za e2 (za e3 (za hal (za hw (za hw2 (za vx (za vy n0))))))));refine zgo ?_;repeat' first|exact zt|apply zan|intro hc
    all_goals exact hL _ (k + 2) zet ⟨by omega,hg2⟩ (by omega) zoe
def awI (a b:Int):Int:=if a - b < b - a then b - a else a - b
theorem apG (a b:Int):awI a b = awI b a:=by unfold awI;split<;>split<;>omega
theorem apm (f g:Qa):acT f g = awI f.day g.day:=rfl
def jn:=qd Proofs.Tryz.f102 []
def K7 (Γ:Env) (f:Nat):Prop:=∀ (a b:Int) (ha:0≤a∧a≤40000) (hb:0≤b∧b≤40000),EvN Γ f [V.int a,V.int b] (V.int (awI a b))
theorem agt {Γ:Env} {f:Nat} (h:Has Γ.P f 12 jn.1.1.ac jn.1.2) :K7 Γ f:=by
 intro a b ha hb
 refine Qb h zsi zcl zcl fun C hC hm=>?_
 subst hC
 simp only [jn,qd,DC.ac]
 obtain ⟨a1,a2⟩:=ha
 obtain ⟨b1,b2⟩:=hb
 have w1:IntKind.i64.wrap (a - b) = a - b:=QG (by omega) (by omega)
 have w2:IntKind.i64.wrap (b - a) = b - a:=QG (by omega) (by omega)
 rw [awI]
 (have zx:=za w1 w2);refine zgo ?_;repeat' first|exact zt|apply zan|intro hc
 all_goals first|exact zr|(refine Qk _ rfl ?_;simp only [go_sem];simp;done)
def nrB (a b:Qa) (day:Int):Bool:=decide (Q7 [Xf (awI a.day day) (awI b.day day),Xf a.day b.day,Xf a.mach b.mach] < 0)
theorem afY (a b:Int):Xf a b < 0↔a < b:=by unfold Xf;split<;>(try split)<;>omega
theorem ab0 (a b:Int):Xf a b = 0↔a = b:=by unfold Xf;split<;>(try split)<;>omega
def UY:=qd Proofs.Tryz.f103 [zhn 10]
def qJ (Γ:Env) (f:Nat):Prop:=∀ (a b:Qa) (day:Int) (ha:akL a) (hb:akL b) (hd:0≤day∧day≤40000),EvN Γ f [a.v,b.v,V.int day] (V.bool (nrB a b day))
theorem adW {Γ:Env} {f:Nat} (h:Has Γ.P f 38 UY.1.1.ac UY.1.2) (z0:K7 Γ 102):qJ Γ f:=by
 intro a b day ha hb hd
 refine Qb h zsi zcl zcl fun C hC hm=>?_
 subst hC
 simp only [UY,qd,DC.ac]
 have p1:=(z0 a.day day ha hd).b
 have p2:=(z0 b.day day hb hd).b
 simp only [Qa.v,Qa.cells,nrB]
 generalize awI a.day day = x at *
 generalize awI b.day day = y at *
 by_cases c1:x = y
 ·subst c1
  have e1:(x != x) = false:=by simp
  by_cases c2:a.day = b.day
  ·have e2:(a.day != b.day) = false:=by simpa using c2
   have hr:decide (Q7 [Xf x x,Xf a.day b.day,Xf a.mach b.mach] < 0) = decide (a.mach < b.mach):=by
    rw [decide_eq_decide]
    simp only [Q7,(ab0 x x).2 rfl,(ab0 _ _).2 c2]
    rw [if_neg (by simp),if_neg (by simp)]
    split
    ·exact afY _ _
    ·rename_i h;have h':=(ab0 _ _).1 (by simpa using h);omega
   rw [hr]
   (have zx:=za e1 e2);exact zg
  ·have e2:(a.day != b.day) = true:=by simpa using c2
   have hr:decide (Q7 [Xf x x,Xf a.day b.day,Xf a.mach b.mach] < 0) = decide (a.day < b.day):=by
    rw [decide_eq_decide]
    have c3:Xf a.day b.day≠0:=fun h=>c2 ((ab0 _ _).1 h)
    simp only [Q7,(ab0 x x).2 rfl]
    rw [if_neg (by simp),if_pos c3]
    exact afY _ _
   rw [hr]
   (have zx:=za e1 e2);exact zg
 ·have e1:(x != y) = true:=by simpa using c1
  have hr:decide (Q7 [Xf x y,Xf a.day b.day,Xf a.mach b.mach] < 0) = decide (x < y):=by
   rw [decide_eq_decide]
   have c3:Xf x y≠0:=fun h=>c1 ((ab0 _ _).1 h)
   simp only [Q7]
   rw [if_pos c3]
   exact afY _ _
  rw [hr]
  (have zx:=e1);exact zg
theorem ab2 {l:List Qa} {f g:Qa} {gap best:Int} {k:Nat} (hg:l[k]? = some g):UT l f gap best k = if (g.mach == 0) || ((g.host != f.host) || decide (awI g.day f.day > gap)) then best else if best < 0 then (k:Int) else
  match l[best.toNat]? with
  | none=>best
  | some h=>if nrB g h f.day then (k:Int) else best:=by
 rw [UT,hg]
 simp only [apm,nrB,apG f.day,zA,kN,ky,bne_iff_ne]
 rfl
def VQ:=qd Proofs.Tryz.f79 [zhn 18,zhn 34]
def Va (Γ:Env) (f:Nat):Prop:=∀ (l:List Qa) (i:Nat) (f0:Qa) (gap:Int) (hl:l.length < 2 ^ 40) (hd:∀ x∈l,akL x) (hi:l[i]? = some f0),EvN Γ f [.sl 11 (l.map Qa.v),V.int i,V.int gap] (V.int (X4 l f0 gap))
theorem acF {Γ:Env} {f:Nat} (h:Has Γ.P f 69 VQ.1.1.ac VQ.1.2) (z0:K7 Γ 102) (z1:qJ Γ 103):Va Γ f:=by
 intro l i f0 gap hl hd hi
 refine Qb h zsi zcl zcl fun C hC hm=>?_
 subst hC
 simp only [VQ,qd,DC.ac]
 have hal:(l.map Qa.v).length = l.length:=zb _
 have v0:(l.map Qa.v)[i]? = some f0.v:=by rw [zf,hi];rfl
 have hf0:=hd f0 (zu hi)
 simp only [Qa.v,Qa.cells] at v0
 refine zgo ?_;repeat' first|exact zt|apply zan|intro hc
 refine Qx (ι:=Nat) (fun k=>k≤l.length) (fun k=>[(7,V.int (Kz l f0 gap k)),(8,V.int k)]) (fun k=>l.length - k) 0 (by omega) (zH _) zol zlt (by simp only [Nat.reduceAdd,ovT,JQ,Nat.reduceEqDiff,reduceIte,Yy,Xg,afl,u32,u33,u34,u35,u36,u37,u38,u39,and_self,and_true,true_and];exact ⟨rfl,rfl⟩) fun k hk K' hL=>?_
 simp only [ovT,JQ,Nat.reduceEqDiff,reduceIte]
 have hrng:=jX l f0 gap k
 have hsuc:=yx l f0 gap k
 have hN:X4 l f0 gap = Kz l f0 gap l.length:=rfl
 rcases hdr:l.drop k with _|⟨g,r⟩
 ·have hkl:=Qs hdr
  have e1:decide ((k:Int) < (l.length:Int)) = false:=by simp;omega
  obtain rfl:k = l.length:=by omega
  rw [hN]
  (have zx:=za e1 hal);exact zg
 ·obtain ⟨hk',hget,hr⟩:=Ql hdr
  have hw:=Qf (k:=k) (by omega)
  have e1:decide ((k:Int) < (l.length:Int)) = true:=by simp;omega
  have hg:=hd g (zu hget)
  have vg:(l.map Qa.v)[k]? = some g.v:=by rw [zf,hget];rfl
  have p1:=(z0 g.day f0.day hg hf0).b
  rw [ab2 hget] at hsuc
  clear hN
  generalize Kz l f0 gap k = best at *
  generalize awI g.day f0.day = dg at *
  simp only [Qa.v,Qa.cells] at vg
  rcases c1:(g.mach == 0) with _|_
  rotate_left
  ·rw [c1] at hsuc
   simp only [kq,if_true] at hsuc
   (have zx:=za e1 (za c1 (za hal (za hw (za vg v0)))));refine zgo ?_;repeat' first|exact zt|apply zan|intro hc
   all_goals exact hL _ (k + 1) (by rw [hsuc];simp only [Nat.reduceAdd,ovT,JQ,Nat.reduceEqDiff,reduceIte,Yy,Xg,afl,u32,u33,u34,u35,u36,u37,u38,u39,and_self,and_true,true_and]) (by omega) (by omega) zoe
  rcases c2:(g.host != f0.host) with _|_
  rotate_left
  ·have c2':(g.host == f0.host) = false:=by simpa using c2
   rw [c1,c2] at hsuc
   simp only [kq,kD,if_true] at hsuc
   (have zx:=za e1 (za c1 (za c2' (za hal (za hw (za vg v0))))));refine zgo ?_;repeat' first|exact zt|apply zan|intro hc
   all_goals exact hL _ (k + 1) (by rw [hsuc];simp only [Nat.reduceAdd,ovT,JQ,Nat.reduceEqDiff,reduceIte,Yy,Xg,afl,u32,u33,u34,u35,u36,u37,u38,u39,and_self,and_true,true_and]) (by omega) (by omega) zoe
  have c2':(g.host == f0.host) = true:=by simpa using c2
  rcases c3:decide (dg > gap) with _|_
  rotate_left
  ·rw [c1,c2,c3] at hsuc
   simp only [ZV,kD,if_true] at hsuc
   (have zx:=za e1 (za c1 (za c2' (za c3 (za hal (za hw (za vg v0)))))));refine zgo ?_;repeat' first|exact zt|apply zan|intro hc
   all_goals exact hL _ (k + 1) (by rw [hsuc];simp only [Nat.reduceAdd,ovT,JQ,Nat.reduceEqDiff,reduceIte,Yy,Xg,afl,u32,u33,u34,u35,u36,u37,u38,u39,and_self,and_true,true_and]) (by omega) (by omega) zoe
  rw [c1,c2,c3] at hsuc
  simp only [Z5,zB,if_false] at hsuc
  by_cases c4:best < 0
  ·rw [if_pos c4] at hsuc
   have e5:decide (best < 0) = true:=zo c4
   (have zx:=za e1 (za c1 (za c2' (za c3 (za e5 (za hal (za hw (za vg v0))))))));refine zgo ?_;repeat' first|exact zt|apply zan|intro hc
   all_goals exact hL _ (k + 1) (by rw [hsuc];simp only [Nat.reduceAdd,ovT,JQ,Nat.reduceEqDiff,reduceIte,Yy,Xg,afl,u32,u33,u34,u35,u36,u37,u38,u39,and_self,and_true,true_and]) (by omega) (by omega) zoe
  ·rw [if_neg c4] at hsuc
   have e5:decide (best < 0) = false:=zp c4
   obtain ⟨j,rfl⟩:∃ j:Nat,best = j:=⟨best.toNat,by omega⟩
   have hj:j < l.length:=by omega
   obtain ⟨q,hgq⟩:∃ q,l[j]? = some q:=⟨_,zd hj⟩
   have vq:(l.map Qa.v)[j]? = some q.v:=by rw [zf,hgq];rfl
   rw [Int.toNat_natCast,hgq] at hsuc
   simp only at hsuc
   have p2:=(z1 g q f0.day hg (hd q (zu hgq)) hf0).b
   simp only [Qa.v,Qa.cells] at vq p2
   rcases c5:nrB g q f0.day with _|_
   ·rw [c5] at p2 hsuc
    simp only [zB,if_false] at hsuc
    (have zx:=za e1 (za c1 (za c2' (za c3 (za e5 (za hal (za hw (za vg (za v0 vq)))))))));refine zgo ?_;repeat' first|exact zt|apply zan|intro hc
    all_goals exact hL _ (k + 1) (by rw [hsuc];simp only [Nat.reduceAdd,ovT,JQ,Nat.reduceEqDiff,reduceIte,Yy,Xg,afl,u32,u33,u34,u35,u36,u37,u38,u39,and_self,and_true,true_and]) (by omega) (by omega) zoe
   ·rw [c5] at p2 hsuc
    simp only [if_true] at hsuc
    (have zx:=za e1 (za c1 (za c2' (za c3 (za e5 (za hal (za hw (za vg (za v0 vq)))))))));refine zgo ?_;repeat' first|exact zt|apply zan|intro hc
    all_goals exact hL _ (k + 1) (by rw [hsuc];simp only [Nat.reduceAdd,ovT,JQ,Nat.reduceEqDiff,reduceIte,Yy,Xg,afl,u32,u33,u34,u35,u36,u37,u38,u39,and_self,and_true,true_and]) (by omega) (by omega) zoe
def jc (l:List Qa) (gap:Int) (f:Qa):Int:=if f.mach≠0 then f.mach else match l[(X4 l f gap).toNat]? with
 | some g=>if X4 l f gap≥0 then g.mach else 0
 | none=>0
def atM (l:List Qa) (gap:Int) (k:Nat):Int:=match l[k]? with
 | some f=>jc l gap f
 | none=>0
def KA (l:List Qa) (gap:Int) (f:Qa) (k:Nat):Bool:=match l[k]? with
 | some g=>(g.host == f.host) && ((g.mach == 0) && decide (X4 l g gap < 0))
 | none=>false
def Uy (l:List Qa) (gap:Int) (f:Qa):Nat→Option Nat
 | 0=>none
 | k + 1=>if KA l gap f k = true then some k else Uy l gap f k
def VH (l:List Qa) (gap m:Int) (i:Nat):Nat→Nat
 | 0=>i
 | n + 1=>if atM l gap (i - (n + 1)) = m then i - (n + 1) else VH l gap m i n
def xH (l:List Qa) (gap:Int) (out:List Int) (i:Nat) (f:Qa) (m:Int):Int :=
 if m≠0 then (VH l gap m i i:Nat) else match Uy l gap f i with
  | none=>i
  | some k=>match l[k]? with
    | some g=>if f.day - g.day≤gap then out.getD k 0 else i
    | none=>i
theorem ake (l:List Qa) (f:Qa) (gap:Int):X4 l f gap = -1∨∃ (n:Nat) (q:Qa),X4 l f gap = n∧l[n]? = some q:=by
 rcases jX l f gap l.length with h|⟨h1,h2⟩
 ·exact .inl h
 ·obtain ⟨n,hn⟩:∃ n:Nat,X4 l f gap = n:=⟨(X4 l f gap).toNat,by have:0≤X4 l f gap:=h1;omega⟩
  have h2:X4 l f gap < l.length:=h2
  exact .inr ⟨n,l[n]'(by omega),hn,zd (by omega)⟩
theorem ajm (l:List Qa) (gap m:Int) {i k:Nat} (hk:k < i):VH l gap m i (i - k) = if atM l gap k = m then k else VH l gap m i (i - (k + 1)):=by
 obtain ⟨n,hn⟩:∃ n,i - k = n + 1:=⟨i - k - 1,by omega⟩
 rw [hn,VH,show i - (n + 1) = k by omega,show i - (k + 1) = n by omega]
def KU:=qd Proofs.Tryz.f80 [zhn 13,zhn 26]
def jR (Γ:Env) (f:Nat):Prop:=∀ (l:List Qa) (out:List Int) (i:Nat) (f0:Qa) (m gap:Int) (hl:l.length < 2 ^ 40) (hd:∀ x∈l,akL x) (hi:l[i]? = some f0) (ho:out.length = l.length),EvN Γ f [.sl 11 (l.map Qa.v),.sl 1 (out.map V.int),V.int i,V.int m,V.int gap] (V.int (xH l gap out i f0 m))
theorem aeW {Γ:Env} {f:Nat} (h:Has Γ.P f 96 KU.1.1.ac KU.1.2) (z0:Va Γ 79):jR Γ f:=by
 intro l out i f0 m gap hl hd hi ho
 refine Qb h zsi zcl zcl fun C hC hm=>?_
 subst hC
 simp only [KU,qd,DC.ac]
 have hal:(l.map Qa.v).length = l.length:=zb _
 have v0:(l.map Qa.v)[i]? = some f0.v:=by rw [zf,hi];rfl
 have hil:=(zn.1 hi).1
 have hf0:=hd f0 (zu hi)
 simp only [Qa.v,Qa.cells] at v0
 rcases c0:(m != 0) with _|_
 rotate_left
 ·have hm0:m≠0:=by simpa using c0
  have hr:xH l gap out i f0 m = (VH l gap m i i:Nat):=by rw [xH,if_pos hm0]
  rw [hr]
  clear hr
  (have zx:=za hal c0);refine zgo ?_;repeat' first|exact zt|apply zan|intro hc
  refine Qx (ι:=Nat) (fun k=>k≤i∧VH l gap m i (i - k) = VH l gap m i i) (fun k=>[(11,V.int k)]) (fun k=>i - k) 0 (by omega) ⟨zH _,rfl⟩ zol zlt zet fun k hk K' hL=>?_
  obtain ⟨hk,hinv⟩:=hk
  simp only [ovT,JQ,Nat.reduceEqDiff,reduceIte]
  by_cases hlt:k < i
  rotate_left
  ·have e1:decide ((k:Int) < (i:Int)) = false:=by simp;omega
   rw [show i - k = 0 by omega,VH] at hinv
   rw [← hinv]
   (have zx:=e1);exact zg
  ·have e1:decide ((k:Int) < (i:Int)) = true:=by simp;omega
   have hw:=Qf (k:=k) (by omega)
   obtain ⟨g,hg⟩:∃ g,l[k]? = some g:=⟨_,zd (by omega)⟩
   have vg:(l.map Qa.v)[k]? = some g.v:=by rw [zf,hg];rfl
   have p1:=(z0 l k g gap hl hd hg).b
   have hat:atM l gap k = jc l gap g:=by rw [atM,hg]
   rw [ajm l gap m hlt,hat] at hinv
   simp only [Qa.v,Qa.cells] at vg
   rcases c1:(g.mach == 0) with _|_
   ·have he:jc l gap g = g.mach:=by rw [jc,if_pos (by simpa using c1)]
    rw [he] at hinv
    rcases c2:(g.mach == m) with _|_
    ·rw [if_neg (by simpa using c2)] at hinv
     (have zx:=za e1 (za hal (za hw (za vg (za c1 c2)))));refine zgo ?_;repeat' first|exact zt|apply zan|intro hc
     all_goals exact hL _ (k + 1) zet ⟨by omega,hinv⟩ (by omega) zoe
    ·rw [if_pos (by simpa using c2)] at hinv
     rw [← hinv]
     (have zx:=za e1 (za hal (za hw (za vg (za c1 c2)))));exact zg
   ·have hg0:g.mach = 0:=by simpa using c1
    rcases ake l g gap with hn|⟨n,q,hn,hq⟩
    ·have he:jc l gap g = 0:=by
      rw [jc,if_neg (by simpa using hg0),hn]
      split<;>rfl
     rw [he] at hinv
     rw [hn] at p1
     have e2:decide ((-1:Int)≥0) = false:=by decide
     rcases c2:((0:Int) == m) with _|_
     ·rw [if_neg (by simpa using c2)] at hinv
      rw [hg0] at vg
      (have zx:=za e1 (za hal (za hw (za vg (za e2 c2)))));refine zgo ?_;repeat' first|exact zt|apply zan|intro hc
      all_goals exact hL _ (k + 1) zet ⟨by omega,hinv⟩ (by omega) zoe
     ·exact absurd (by simpa using c2:(0:Int) = m).symm hm0
    ·have he:jc l gap g = q.mach:=by
      rw [jc,if_neg (by simpa using hg0),hn,Int.toNat_natCast,hq]
      simp only
      rw [if_pos (by omega)]
     rw [he] at hinv
     rw [hn] at p1
     have e2:decide ((n:Int)≥0) = true:=zo (by omega)
     have vq:(l.map Qa.v)[n]? = some q.v:=by rw [zf,hq];rfl
     simp only [Qa.v,Qa.cells] at vq
     rcases c2:(q.mach == m) with _|_
     ·rw [if_neg (by simpa using c2)] at hinv
      (have zx:=za e1 (za hal (za hw (za vg (za vq (za c1 (za e2 c2)))))));refine zgo ?_;repeat' first|exact zt|apply zan|intro hc
      all_goals exact hL _ (k + 1) zet ⟨by omega,hinv⟩ (by omega) zoe
     ·rw [if_pos (by simpa using c2)] at hinv
      rw [← hinv]
      (have zx:=za e1 (za hal (za hw (za vg (za vq (za c1 (za e2 c2)))))));exact zg
 have hm0:m = 0:=by simpa using c0
 subst hm0
 have hr:xH l gap out i f0 0 = match Uy l gap f0 i with
  | none=>(i:Int)
  | some k=>match l[k]? with
    | some g=>if f0.day - g.day≤gap then out.getD k 0 else i
    | none=>i:=by rw [xH,if_neg (by simp)]
 have n0:((0:Int) != 0) = false:=by decide
 have hwi:IntKind.i64.wrap ((i:Int) - 1) = (i:Int) - 1:=QG (by omega) (by omega)
 (have zx:=za hal (za n0 hwi));refine zgo ?_;repeat' first|exact zt|apply zan|intro hc
 refine Qx (ι:=Nat) (fun k=>k≤i∧Uy l gap f0 k = Uy l gap f0 i) (fun k=>[(14,V.int ((k:Int) - 1))]) (fun k=>k) i (by omega) ⟨zj _,rfl⟩ zol zlt zet fun k hk K' hL=>?_
 obtain ⟨hk,hinv⟩:=hk
 simp only [ovT,JQ,Nat.reduceEqDiff,reduceIte]
 rcases k with _|k
 ·have e1:decide (((0:Nat):Int) - 1≥0) = false:=by decide
  rw [← hinv] at hr
  simp only [Uy] at hr
  rw [hr]
  (have zx:=e1);exact zg
 ·have hk1:((k + 1:Nat):Int) - 1 = (k:Int):=by omega
  rw [hk1]
  have e1:decide ((k:Int)≥0) = true:=zo (by omega)
  have hw:IntKind.i64.wrap ((k:Int) - 1) = (k:Int) - 1:=QG (by omega) (by omega)
  obtain ⟨g,hg⟩:∃ g,l[k]? = some g:=⟨_,zd (by omega)⟩
  have vg:(l.map Qa.v)[k]? = some g.v:=by rw [zf,hg];rfl
  have p1:=(z0 l k g gap hl hd hg).b
  have hlb:KA l gap f0 k = ((g.host == f0.host) && ((g.mach == 0) && decide (X4 l g gap < 0))):=by rw [KA,hg]
  rw [Uy] at hinv
  simp only [Qa.v,Qa.cells] at vg
  generalize X4 l g gap = nn at *
  rcases c1:(g.host == f0.host) with _|_
  ·rw [hlb,c1,zy,if_neg (by decide)] at hinv
   (have zx:=za e1 (za hal (za hw (za vg (za v0 c1)))));refine zgo ?_;repeat' first|exact zt|apply zan|intro hc
   all_goals exact hL _ k zet ⟨by omega,hinv⟩ (by omega) zoe
  rcases c2:(g.mach == 0) with _|_
  ·rw [hlb,c1,c2,zy,zI,if_neg (by decide)] at hinv
   (have zx:=za e1 (za hal (za hw (za vg (za v0 (za c1 c2))))));refine zgo ?_;repeat' first|exact zt|apply zan|intro hc
   all_goals exact hL _ k zet ⟨by omega,hinv⟩ (by omega) zoe
  rcases c3:decide (nn < 0) with _|_
  ·rw [hlb,c1,c2,c3,if_neg (by decide)] at hinv
   (have zx:=za e1 (za hal (za hw (za vg (za v0 (za c1 (za c2 c3)))))));refine zgo ?_;repeat' first|exact zt|apply zan|intro hc
   all_goals exact hL _ k zet ⟨by omega,hinv⟩ (by omega) zoe
  rw [hlb,c1,c2,c3,if_pos (by decide)] at hinv
  rw [← hinv] at hr
  simp only [hg] at hr
  have hgd:=hd g (zu hg)
  obtain ⟨d1,d2⟩:=hf0
  obtain ⟨d3,d4⟩:=hgd
  have hws:IntKind.i64.wrap (f0.day - g.day) = f0.day - g.day:=QG (by omega) (by omega)
  have hok:k < out.length:=by omega
  have vo:(out.map V.int)[k]? = some (V.int (out.getD k 0)):=by rw [zf,zJ,zd hok];rfl
  rw [hr]
  rcases c4:decide (f0.day - g.day≤gap) with _|_
  ·rw [if_neg (by simpa using c4)]
   (have zx:=za e1 (za hal (za hw (za hws (za vg (za v0 (za c1 (za c2 (za c3 c4)))))))));exact zg
  ·rw [if_pos (by simpa using c4)]
   (have zx:=za e1 (za hal (za hw (za hws (za vg (za v0 (za vo (za c1 (za c2 (za c3 c4))))))))));exact zg
def acr (n:Nat) (r:List Int):List Int:=r++List.replicate (n - r.length) (-1)
def YC (l:List Qa) (gap:Int):Nat→List Int
 | 0=>[]
 | k + 1=>match l[k]? with
   | some f=>YC l gap k++[xH l gap (acr l.length (YC l gap k)) k f (jc l gap f)]
   | none=>YC l gap k
theorem aa8 (l:List Qa) (gap:Int):∀ k,k≤l.length→(YC l gap k).length = k
 | 0,_=>rfl
 | k + 1,h=>by
   have hg:l[k]? = some l[k]:=zd (by omega)
   rw [YC,hg]
   simp [aa8 l gap k (by omega)]
theorem aj5 {n:Nat} {r:List Int} (h:r.length≤n):(acr n r).length = n:=by simp [acr];omega
theorem aoy {n:Nat} {r:List Int} (h:r.length < n) (v:Int):(acr n r).set r.length v = acr n (r++[v]):=by
 obtain ⟨m,hm⟩:∃ m,n - r.length = m + 1:=⟨n - r.length - 1,by omega⟩
 rw [acr,acr,hm,zq,List.length_singleton,show n - (r.length + 1) = m by omega,List.replicate_succ,ZP _ _ (zj _),kH,List.set_cons_zero,kE];rfl
def wE (n k:Nat):List Int:=List.replicate k (-1)++List.replicate (n - k) 0
theorem anr {n k:Nat} (h:k≤n):(wE n k).length = n:=by simp [wE];omega
theorem anq {n k:Nat} (h:k < n):(wE n k).set k (-1) = wE n (k + 1):=by
 obtain ⟨m,hm⟩:∃ m,n - k = m + 1:=⟨n - k - 1,by omega⟩
 rw [wE,wE,hm,show n - (k + 1) = m by omega,List.replicate_succ,ZP _ _ (by simp)]
 simp [List.replicate_succ' (n:=k)]
theorem adw (r:List Int) (k:Nat) (v:Int):(r.map V.int).set k (V.int v) = (r.set k v).map V.int:=by rw [Zu]
theorem alz (n:Nat):List.replicate n (V.sc (Value.int .i64 0)) = (wE n 0).map V.int:=by simp [wE,V.int]
theorem ans (n:Nat):wE n n = acr n []:=by simp [wE,acr]
def jm:=qd Proofs.Tryz.f46 []
def yW (Γ:Env) (f:Nat):Prop:=∀ (l:List Qa) (gap:Int) (hl:l.length≤400) (hd:∀ x∈l,akL x),EvC Γ f [.sl 11 (l.map Qa.v),V.int gap] (.sl 1 ((YC l gap l.length).map V.int))
attribute [local go_sem] Ju in
theorem ags {Γ:Env} {f:Nat} (h:Has Γ.P f 56 jm.1.1.ac jm.1.2) (z0:Va Γ 79) (z1:jR Γ 80):yW Γ f:=by
 intro l gap hl hd
 refine Jy h zsi zcl fun C hC hm=>?_
 subst hC
 simp only [jm,qd,DC.ac]
 have hal:(l.map Qa.v).length = l.length:=zb _
 have hz:=alz l.length
 have hmz:[V.sc (Value.int IntKind.i64 0)].headD V.top = V.sc (Value.int IntKind.i64 0):=rfl
 (have zx:=za hal (za hz hmz));refine zgo ?_;repeat' first|exact zt|apply zan|intro hc
 refine Qo (ι:=Nat) (fun k=>k≤l.length) (fun k=>Ju [(0,.sl 11 (l.map Qa.v)),(1,V.int gap),(5,.hd 0 0 l.length),(6,V.int k)] [(0,.buf true 1 ((wE l.length k).map V.int))] 1) (fun k=>l.length - k) 0 (zH _) (Qe [(0,3000)]) (zwg [(0,3000)]) fun k hk K' hL=>?_
 have hbl:((wE l.length k).map V.int).length = l.length:=by rw [zb,anr hk]
 by_cases hlt:k < l.length
 ·have e1:decide ((k:Int) < (l.length:Int)) = true:=by simp;omega
  have hw:=Qf (k:=k) (by omega)
  have hs:((wE l.length k).map V.int).set k (V.int (-1)) = (wE l.length (k + 1)).map V.int:=by rw [adw,anq hlt]
  have vz:((wE l.length k).map V.int)[k]? = some (V.sc (Value.int .i64 0)):=by
   rw [zf,wE,zY (by simp),bf,kH,List.getElem?_replicate,if_pos (by omega)];rfl
  (have zx:=za e1 (za hal (za hw (za hbl (za vz hs)))));refine zgo ?_;repeat' first|exact zt|apply zan|intro hc
  all_goals exact hL _ (k + 1) (Qe []) (by omega) (by omega) (zwg [])
 have e1:decide ((k:Int) < (l.length:Int)) = false:=by simp;omega
 obtain rfl:k = l.length:=by omega
 rw [ans]
 clear hL hbl
 have hpl:(acr l.length []).length = l.length:=aj5 (zH _)
 (have zx:=za e1 hal);refine zgo ?_;repeat' first|exact zt|apply zan|intro hc
 refine Qo (ι:=Nat) (fun k=>k≤l.length) (fun k=>Ju [(0,.sl 11 (l.map Qa.v)),(1,V.int gap),(5,.hd 0 0 l.length),(7,V.int k)] [(0,.buf true 1 ((acr l.length (YC l gap k)).map V.int))] 1) (fun k=>l.length - k) 0 (zH _) (Qe [(0,0)]) (Qg [(0,0)] zwa (by simp only [go_sem,zwl,YC]<;>exact zcc) (by simp [Qe]) (by simp;omega) (by omega)) fun k hk K' hL=>?_
 have hrl:=aa8 l gap k hk
 have hpl:=aj5 (n:=l.length) (r:=YC l gap k) (by omega)
 have hbl:((acr l.length (YC l gap k)).map V.int).length = l.length:=by rw [zb,hpl]
 have htl:List.take l.length ((acr l.length (YC l gap k)).map V.int) = (acr l.length (YC l gap k)).map V.int:=zh (by omega)
 rcases hdr:l.drop k with _|⟨f0,r⟩
 ·have hkl:=Qs hdr
  have e1:decide ((k:Int) < (l.length:Int)) = false:=by simp;omega
  obtain rfl:k = l.length:=by omega
  have hpe:acr l.length (YC l gap l.length) = YC l gap l.length:=by simp [acr,hrl]
  rw [hpe] at htl hbl ⊢
  (have zx:=za e1 (za hal htl));refine zgo ?_;repeat' first|exact zt|apply zan|intro hc
  all_goals first|exact zr|(refine Qk _ rfl ?_;simp only [go_sem];simp [htl];done)
 obtain ⟨hk',hget,hr⟩:=Ql hdr
 have hw:=Qf (k:=k) (by omega)
 have e1:decide ((k:Int) < (l.length:Int)) = true:=by simp;omega
 have v0:(l.map Qa.v)[k]? = some f0.v:=by rw [zf,hget];rfl
 have p1:=(z0 l k f0 gap (by omega) hd hget).b
 have p2:=(z1 l (acr l.length (YC l gap k)) k f0 (jc l gap f0) gap (by omega) hd hget hpl).b
 have hsu:YC l gap (k + 1) = YC l gap k++[xH l gap (acr l.length (YC l gap k)) k f0 (jc l gap f0)]:=by rw [YC,hget]
 have hst:=aoy (n:=l.length) (r:=YC l gap k) (by omega) (xH l gap (acr l.length (YC l gap k)) k f0 (jc l gap f0))
 rw [hrl,← hsu] at hst
 have hs:=adw (acr l.length (YC l gap k)) k (xH l gap (acr l.length (YC l gap k)) k f0 (jc l gap f0))
 rw [hst] at hs
 have vz:((acr l.length (YC l gap k)).map V.int)[k]? = some (V.sc (Value.int .i64 (-1))):=by
  rw [zf,acr,zY (by omega),hrl,kH,List.getElem?_replicate,if_pos (by omega)];rfl
 clear hsu hst
 generalize xH l gap (acr l.length (YC l gap k)) k f0 (jc l gap f0) = gf at *
 simp only [Qa.v,Qa.cells] at v0
 rcases c1:(f0.mach == 0) with _|_
 ·have he:jc l gap f0 = f0.mach:=by rw [jc,if_pos (by simpa using c1)]
  rw [he] at p2
  clear p1
  (have zx:=za e1 (za hal (za hw (za hbl (za htl (za vz (za hs (za v0 c1))))))));refine zgo ?_;repeat' first|exact zt|apply zan|intro hc
  all_goals exact hL _ (k + 1) (Qe []) (by omega) (by omega) (zwg [])
 ·have hg0:f0.mach = 0:=by simpa using c1
  rcases ake l f0 gap with hn|⟨n,q,hn,hq⟩
  ·have he:jc l gap f0 = 0:=by
    rw [jc,if_neg (by simpa using hg0),hn]
    split<;>rfl
   rw [he] at p2
   rw [hn] at p1
   rw [hg0] at v0
   have e2:decide ((-1:Int)≥0) = false:=by decide
   have e3:((0:Int) == 0) = true:=by decide
   (have zx:=za e1 (za e2 (za e3 (za hal (za hw (za hbl (za htl (za vz (za hs v0)))))))));refine zgo ?_;repeat' first|exact zt|apply zan|intro hc
   all_goals exact hL _ (k + 1) (Qe []) (by omega) (by omega) (zwg [])
  ·have he:jc l gap f0 = q.mach:=by
    rw [jc,if_neg (by simpa using hg0),hn,Int.toNat_natCast,hq]
    simp only
    rw [if_pos (by omega)]
   rw [he] at p2
   rw [hn] at p1
   have e2:decide ((n:Int)≥0) = true:=zo (by omega)
   have vq:(l.map Qa.v)[n]? = some q.v:=by rw [zf,hq];rfl
   simp only [Qa.v,Qa.cells] at vq
   (have zx:=za e1 (za e2 (za hal (za hw (za hbl (za htl (za vz (za hs (za v0 (za vq c1))))))))));refine zgo ?_;repeat' first|exact zt|apply zan|intro hc
   all_goals exact hL _ (k + 1) (Qe []) (by omega) (by omega) (zwg [])
def KI (l:List Int):Nat→Nat→List Qa×Nat
 | 0,k=>([],k)
 | n + 1,k=>((vj l k).1 :: (KI l n (vj l k).2).1,(KI l n (vj l k).2).2)
def aak (l:List Int) (k:Nat) (most:Int):List Qa×Nat :=
 (YI (KI l (Qm l k (most + 1)).1.toNat (Qm l k (most + 1)).2).1,(KI l (Qm l k (most + 1)).1.toNat (Qm l k (most + 1)).2).2)
theorem ajp {l:List Int} {k:Nat} (h:k≤l.length):(JR l k).2≤l.length:=qS (QH (qm (QH (qm (qS (QH h))))))
theorem apa {l:List Int} {f:Qa} {k:Nat} (h:k≤l.length):(anJ l f k).2≤l.length:=by
 unfold anJ
 (repeat' split)<;>first|exact QH h|exact QH (qm h)|exact qS h
theorem akw {l:List Int} {k:Nat} (h:k≤l.length):(vj l k).2≤l.length:=apa (ajp h)
theorem agE {l:List Int}:∀ (n:Nat) {k:Nat},k≤l.length→(KI l n k).2≤l.length
 | 0,_,h=>h
 | n + 1,_,h=>agE n (akw h)
theorem aeb (l:List Int):∀ (n k:Nat),(KI l n k).1.length = n
 | 0,_=>rfl
 | n + 1,k=>by rw [KI,List.length_cons,aeb l n]
theorem xO {l:List Int} {P:Qa→Prop} (h:∀ k,k≤l.length→P (vj l k).1):∀ (n:Nat) {k:Nat},k≤l.length→∀ x∈(KI l n k).1,P x
 | 0,_,_,_,hx=>by cases hx
 | n + 1,k,hk,x,hx=>by
   rcases zF.1 hx with rfl|hx
   ·exact h k hk
   ·exact xO h n (akw hk) x hx
theorem afH (l:List Int):∀ (n k:Nat),KI l (n + 1) k = ((KI l n k).1++[(vj l (KI l n k).2).1],(vj l (KI l n k).2).2)
 | 0,_=>rfl
 | n + 1,k=>by
   have:=afH l n (vj l k).2
   rw [KI,this];rfl
theorem ar6:Q0 [97] = true∧Q0 [98] = true∧Q0 [99] = true∧Q0 [115] = true∧Q0 [116] = true:=by decide +kernel
theorem ajo (l:List Int) (k:Nat):∃ h s,(JR l k).1 = ⟨(JR l k).1.src,h,(JR l k).1.mach,(JR l k).1.day,(JR l k).1.conf,(JR l k).1.kind,s,0,0,0,[]⟩∧(h = [97]∨h = [98]∨h = [99])∧(s = [115]∨s = [116]) ∧
  (1≤(JR l k).1.src∧(JR l k).1.src≤7)∧(0≤(JR l k).1.mach∧(JR l k).1.mach≤3)∧(0≤(JR l k).1.day∧(JR l k).1.day≤11)∧(1≤(JR l k).1.conf∧(JR l k).1.conf≤100)∧(1≤(JR l k).1.kind∧(JR l k).1.kind≤8):=by
 have r1:=Qr (l:=l) (k:=k) (n:=7) (by omega) (by omega)
 simp only [JR]
 generalize Qm l k 7 = x1 at *
 have r2:=ac7 (l:=l) (k:=x1.2) (xs:=[[97],[98],[99]]) (by decide) (by decide)
 generalize jA l x1.2 [[97],[98],[99]] = x2 at *
 have r3:=ql (l:=l) (k:=x2.2) (xs:=[0,1,2,0,3]) (by decide) (by decide)
 generalize ofD l x2.2 [0,1,2,0,3] = x3 at *
 have r4:=Qr (l:=l) (k:=x3.2) (n:=12) (by omega) (by omega)
 generalize Qm l x3.2 12 = x4 at *
 have r5:=ql (l:=l) (k:=x4.2) (xs:=[90,50,100,1]) (by decide) (by decide)
 generalize ofD l x4.2 [90,50,100,1] = x5 at *
 have r6:=Qr (l:=l) (k:=x5.2) (n:=8) (by omega) (by omega)
 generalize Qm l x5.2 8 = x6 at *
 have r7:=ac7 (l:=l) (k:=x6.2) (xs:=[[115],[116]]) (by decide) (by decide)
 generalize jA l x6.2 [[115],[116]] = x7 at *
 simp only [zF,zM,or_false] at r2 r3 r5 r7
 exact ⟨x2.1,x7.1,rfl,r2,r7,by omega,by omega,by omega,by omega,by omega⟩
theorem amr:QL 1 0 > 0∧QL 2 0 > 0∧QL 5 1024 > 0∧QL 5 2048 > 0∧QL 14 128 > 0∧(WT 5).kind = 2:=by decide +kernel
theorem ak3 {c:Int} (h:0≤c∧c < 4):QL (arH c).1 (arH c).2 > 0:=by
 obtain ⟨s1,s2,s3,s4,s5,_⟩:=amr
 obtain rfl|rfl|rfl|rfl:c = 0∨c = 1∨c = 2∨c = 3:=by omega
 ·exact s1
 ·exact s2
 ·exact s3
 ·exact s5
theorem ac2 (l:List Int) (k:Nat):JC (vj l k).1 = true∧(vj l k).1.Sz:=by
 obtain ⟨h,s,he,hh,hs,h1,h2,h3,h4,h5⟩:=ajo l k
 obtain ⟨n1,n2,n3,n4,n5⟩:=ar6
 obtain ⟨_,_,s3,s4,_,c5⟩:=amr
 rw [vj]
 generalize (JR l k).2 = q
 revert he h1 h2 h3 h4 h5
 generalize (JR l k).1 = f
 intro he h1 h2 h3 h4 h5
 have hn:Q0 h = true:=by rcases hh with rfl|rfl|rfl<;>assumption
 have sn:Q0 s = true:=by rcases hs with rfl|rfl<;>assumption
 have hl:h.length < 2 ^ 60:=by rcases hh with rfl|rfl|rfl<;>decide
 have sl:s.length < 2 ^ 60:=by rcases hs with rfl|rfl<;>decide
 obtain ⟨src,host,mach,day,conf,kind,subj,alg,bits,num,text⟩:=f
 simp only [Qa.mk.injEq,true_and] at he
 obtain ⟨rfl,rfl,rfl,rfl,rfl,rfl⟩:=he
 dsimp only at h1 h2 h3 h4 h5
 have head:∀ g:Qa,g.src = src→g.host = host→g.mach = mach→g.day = day→g.conf = conf→g.subj = subj→g.text.length < 2 ^ 60→KJ g = true→JC g = true∧g.Sz:=by
  intro g e1 e2 e3 e4 e5 e6 e7 e8
  refine ⟨?_,by rw [e2];exact hl,by rw [e6];exact sl,e7⟩
  rw [JC,e1,e2,e3,e4,e5,e6,e8,hn,sn]
  simp;omega
 have r4:=Qr (l:=l) (k:=q) (n:=4) (by omega) (by omega)
 have r5:=Qr (l:=l) (k:=q) (n:=5) (by omega) (by omega)
 have r3:=Qr (l:=l) (k:=q) (n:=3) (by omega) (by omega)
 have ro:=ql (l:=l) (k:=q) (xs:=[1024,2048]) (by decide) (by decide)
 have rp:=Qr (l:=l) (k:=(ofD l q [1024,2048]).2) (n:=3) (by omega) (by omega)
 have rw_:=ac7 (l:=l) (k:=q) (xs:=[[97],[98]]) (by decide) (by decide)
 have us:=ak3 r4
 simp only [zF,zM,or_false] at ro rw_
 have hk:kind = 1∨kind = 2∨kind = 3∨kind = 4∨kind = 5∨kind = 6∨kind = 7∨kind = 8:=by omega
 have wn:Q0 (jA l q [[97],[98]]).1 = true:=by rcases rw_ with h|h<;>rw [h]<;>assumption
 have wl:(jA l q [[97],[98]]).1.length < 2 ^ 60:=by rcases rw_ with h|h<;>rw [h]<;>decide
 have os:QL 5 (ofD l q [1024,2048]).1 > 0:=by rcases ro with h|h<;>rw [h]<;>assumption
 rcases hk with rfl|rfl|rfl|rfl|rfl|rfl|rfl|rfl
 all_goals
  simp only [anJ,Int.reduceEq,or_true,true_or,or_self,if_true,if_false]
  refine head _ rfl rfl rfl rfl rfl rfl ?_ ?_
  ·first|exact wl|(show (0:Nat) < 2 ^ 60;decide)
  ·simp only [KJ,ai8,Int.reduceEq,or_true,true_or,or_self,if_true,if_false]
   first|(simp [us];done)|(simp [os,c5];omega)|(simp [wn];done)|(simp;omega)
theorem am1 {α:Type} {p:α→Bool} {q:α→α→Bool} (tr:∀ a b c,q a b = true→q b c = true→q a c = true) (l:List α):∀ k,k≤l.length→(okP p q l k = true↔(∀ x∈l.take k,p x = true)∧(l.take k).Pairwise fun a b=>q a b = true)
 | 0,_=>by simp [akb]
 | k + 1,h=>by
   obtain ⟨x,hx⟩:∃ x,l[k]? = some x:=⟨_,zd (by omega)⟩
   rw [acY,hx,zO,hx,Option.toList_some,kV]
   dsimp only
   rw [zw,am1 tr l k (by omega),zw,kN]
   constructor
   ·rintro ⟨⟨h1,h2⟩,h3,h4⟩
    refine ⟨fun y hy=>(zT.1 hy).elim (h1 y) (fun e=>by rw [zv.1 e];exact h3),h2,List.pairwise_singleton _ _,fun y hy z hz=>?_⟩
    rw [zv.1 hz]
    rcases k with _|j
    ·simp at hy
    ·obtain ⟨u,hu⟩:∃ u,l[j]? = some u:=⟨_,zd (by omega)⟩
     rw [show j + 1 - 1 = j from rfl,hu] at h4
     have h4:q u x = true:=by rcases h4 with h4|h4;simp at h4;exact h4
     rw [zO,hu,Option.toList_some,kV] at h2
     rw [zO,hu,Option.toList_some] at hy
     rcases zT.1 hy with hy|hy
     ·exact tr y u x (h2.2.2 y hy u (zv.2 rfl)) h4
     ·rw [zv.1 hy];exact h4
   ·rintro ⟨h1,h2,_,h3⟩
    refine ⟨⟨fun y hy=>h1 y (kY _ hy),h2⟩,h1 x (Zj _ (zv.2 rfl)),?_⟩
    rcases k with _|j
    ·exact .inl rfl
    ·obtain ⟨u,hu⟩:∃ u,l[j]? = some u:=⟨_,zd (by omega)⟩
     rw [show j + 1 - 1 = j from rfl,hu]
     exact .inr (h3 u (by rw [zO,hu];exact Zj _ (zv.2 rfl)) x (zv.2 rfl))
theorem ajD:Cm acs:=by
 have h0:Cm fun _ _:Qa=>(0:Int):=⟨fun _ _=>rfl,fun _ _ _ _ _=>Int.le_refl _,fun _ _ _ _ _ _=>rfl⟩
 exact (aij.by Qa.host).lex ((xi.by Qa.mach).lex ((xi.by Qa.day).lex ((aij.by Qa.subj).lex ((xi.by Qa.kind).lex ((xi.by Qa.alg).lex ((xi.by Qa.bits).lex ((xi.by Qa.num).lex ((aij.by Qa.text).lex ((xi.by Qa.src).lex ((xi.by Qa.conf).lex h0))))))))))
theorem anc (a b c:Qa) (h1:ltF a b = true) (h2:ltF b c = true):ltF a c = true:=by
 simp only [ltF,zA] at *
 have t:=ajD.tr a b c (by omega) (by omega)
 have z:=ajD.ze a b c (by omega) (by omega)
 omega
theorem aad (l:List Qa):ahw l = true↔(∀ x∈l,JC x = true)∧l.Pairwise fun a b=>ltF a b = true:=by
 rw [ahw,am1 anc l _ (zj _),zR]
theorem ahx {l s:List Qa} (h:Y1 l = true) (hs:s.Sublist l):Y1 s = true:=by
 rw [Y1,zw,aad,zA] at h ⊢
 refine ⟨⟨fun x hx=>h.1.1 x (hs.subset hx),h.1.2.sublist hs⟩,?_⟩
 have:=hs.length_le;omega
theorem ahq (l:List Qa) (x:Qa):∀ k,k≤l.length→(∀ i,ag6 l x k≤i→i < k→∃ y,l[i]? = some y∧acs y x > 0)∧(∀ j,ag6 l x k = j + 1→∃ y,l[j]? = some y∧¬ acs y x > 0)
 | 0,_=>⟨fun i _ h=>absurd h (Zf _),fun j h=>by cases h⟩
 | k + 1,hk=>by
   obtain ⟨y,hy⟩:∃ y,l[k]? = some y:=⟨_,zd (by omega)⟩
   rw [ag6,hy]
   dsimp only
   by_cases h:acs y x > 0
   ·rw [if_pos h]
    obtain ⟨h1,h2⟩:=ahq l x k (by omega)
    refine ⟨fun i hi hlt=>?_,h2⟩
    by_cases e:i = k
    ·subst e;exact ⟨y,hy,h⟩
    ·exact h1 i hi (by omega)
   ·rw [if_neg h]
    exact ⟨fun i h1 h2=>by omega,fun j hj=>by
     have e:k = j:=by omega
     subst e
     exact ⟨y,hy,h⟩⟩
theorem ajh {l:List Qa} {x:Qa} (hs:l.Pairwise fun a b=>ltF a b = true) (hd:aoh l x = false):(adG l x).Pairwise fun a b=>ltF a b = true:=by
 obtain ⟨h1,h2⟩:=ahq l x l.length (zj _)
 have hple:=ai2 l x l.length
 rw [adG]
 rw [aoh] at hd
 generalize ag6 l x l.length = p at *
 have hb:∀ y∈l.take p,ltF y x = true:=by
  intro y hy
  rcases p with _|j
  ·simp at hy
  ·obtain ⟨z,hz,hn⟩:=h2 j rfl
   dsimp only at hd
   rw [hz] at hd
   dsimp only at hd
   have hzx:ltF z x = true:=by simp at hd;simp only [ltF,zA];omega
   have hs2:=hs.sublist (Z9 (j + 1) l)
   rw [zO,hz,Option.toList_some] at hs2 hy
   rw [kV] at hs2
   rcases zT.1 hy with hy|hy
   ·exact anc y z x (hs2.2.2 y hy z (zv.2 rfl)) hzx
   ·rw [zv.1 hy];exact hzx
 have ha:∀ y∈l.drop p,ltF x y = true:=by
  intro y hy
  obtain ⟨i,hi⟩:=List.mem_iff_getElem?.1 hy
  rw [Zl] at hi
  obtain ⟨z,hz,hp⟩:=h1 (p + i) (by omega) (zn.1 hi).1
  rw [hi] at hz
  cases hz
  have:=ajD.neg y x
  simp only [ltF,zA];omega
 rw [kV]
 refine ⟨hs.sublist (Z9 _ _),ZL.2 ⟨ha,hs.sublist (List.drop_sublist _ _)⟩,fun y hy z hz=>?_⟩
 rcases zF.1 hz with rfl|hz
 ·exact hb y hy
 ·exact anc y x z (hb y hy) (ha z hz)
theorem ao5 {l:List Qa} {x y:Qa} (h:y∈adG l x):y = x∨y∈l:=by
 rw [adG] at h
 rcases zT.1 h with h|h
 ·exact .inr (zD h)
 ·rcases zF.1 h with h|h
  ·exact .inl h
  ·exact .inr (zG h)
theorem akv {P:Qa→Prop}:∀ (l out:List Qa),(∀ x∈l,P x)→(∀ x∈out,P x)→(out.Pairwise fun a b=>ltF a b = true)→(∀ x∈l.foldl aco out,P x)∧(l.foldl aco out).Pairwise fun a b=>ltF a b = true
 | [],out,_,h2,h3=>⟨h2,h3⟩
 | x :: r,out,h1,h2,h3=>by
   rw [List.foldl_cons]
   refine akv r _ (fun y hy=>h1 y (kL _ hy)) ?_ ?_
   ·rw [aco];split
    ·exact h2
    ·intro y hy
     rcases ao5 hy with rfl|hy
     ·exact h1 _ kG
     ·exact h2 y hy
   ·rw [aco];split
    ·exact h3
    ·rename_i hd;exact ajh h3 (by simpa using hd)
theorem akd {P:Qa→Prop} {l:List Qa} (h:∀ x∈l,P x):(∀ x∈YI l,P x)∧(YI l).Pairwise fun a b=>ltF a b = true:=akv l [] h (by simp) List.Pairwise.nil
theorem alr {l:List Qa} (h:∀ x∈l,JC x = true) (hl:l.length≤400):Y1 (YI l) = true:=by
 rw [Y1,zw,aad,zA]
 have:=adu l
 exact ⟨akd h,by omega⟩
theorem anI {l:List Int} {k:Nat} {most:Int} (hk:k≤l.length) (hm:0≤most∧most≤100) :
  (∀ x∈(aak l k most).1,x.Sz)∧Y1 (aak l k most).1 = true∧(aak l k most).1.length≤most.toNat∧(aak l k most).2≤l.length:=by
 have hr:=Qr (l:=l) (k:=k) (n:=most + 1) (by omega) (by omega)
 have hq:=QH (n:=most + 1) hk
 rw [aak]
 generalize Qm l k (most + 1) = x at *
 have hlen:=aeb l x.1.toNat x.2
 have hn:=adu (KI l x.1.toNat x.2).1
 refine ⟨(akd (xO (fun k _=>(ac2 l k).2) _ hq)).1,alr (xO (fun k _=>(ac2 l k).1) _ hq) (by omega),by dsimp only;omega,agE _ hq⟩
def fnS (l:List Int) (m:Nat) (x:List Qa×Nat):St:=Ju [(0,.ptr 0 0),(5,.hd 1 0 x.1.length),(6,V.int m)] [(0,.box true (QA l x.2)),(1,.buf true 11 (x.1.map Qa.v))] 2
def VT:=qd Proofs.Tryz.f9 []
def Kr (Γ:Env) (f:Nat):Prop:=(∀ (l:List Int) (k:Nat) (most:Int) (hl:l.length≤400) (hk:k≤l.length) (hm:0≤most∧most≤100),asI Γ f [V.int most] (QA l k) 11 ((aak l k most).1.map Qa.v) (QA l (aak l k most).2))
attribute [local go_sem] QA Ju in
theorem acI {Γ:Env} {f:Nat} (h:Has Γ.P f 28 VT.1.1.ac VT.1.2) (z0:Jc Γ 10) (z1:qL Γ 26) (z2:K8 Γ 25):Kr Γ f:=by
 intro l k most hl hk hm
 refine ah4 h (by simp) (Xe _ _) (Xe _ _) (by simp only [V.closed,Qd,and_self]) fun C hC hm=>?_
 subst hC;simp only [VT,qd,DC.ac]
 have n1:=z0 l k (most + 1) hl hk
 have r1:=Qr (l:=l) (k:=k) (n:=most + 1) (by omega) (by omega)
 have k1:=QH (n:=most + 1) hk
 have hwm:IntKind.i64.wrap (most + 1) = most + 1:=QG (by omega) (by omega)
 simp only [aak]
 generalize Qm l k (most + 1) = x1 at *
 obtain ⟨a1,q1⟩:=x1
 simp only at n1 r1 k1 ⊢
 obtain ⟨n,rfl⟩:∃ n:Nat,a1 = n:=⟨a1.toNat,by omega⟩
 rw [Int.toNat_natCast]
 simp only [QA,zL,zK] at n1
 (have zx:=hwm);refine zgo ?_;repeat' first|exact zt|apply zan|intro hc
 refine Qo (ι:=Nat) (fun j=>j≤n) (fun j=>fnS l (n - j) (KI l j q1)) (fun j=>n - j) 0 (zH _) (Qe [(1,1001)]) (Qg [(1,1001)] (by simp only [go_sem,zwl,fnS,KI,List.length_nil]<;>exact zcc) (by simp only [go_sem,zwl,fnS,KI,QA,zK,zL]<;>exact zcc) (by simp [fnS,Qe]) (by simp [fnS];omega) (by omega)) fun j hj K' hL=>?_
 have hlen:=aeb l j q1
 have hle:=agE (l:=l) j k1
 rcases kM j n with hlt|hge
 rotate_left
 ·obtain rfl:j = n:=by omega
  have e1:decide (((j - j:Nat):Int) > 0) = false:=by simp
  have gN:=z2 (KI l j q1).1 (by omega) (xO (fun k _=>(ac2 l k).2) _ k1) (xO (fun k _=>(ac2 l k).1) _ k1)
  have htl:List.take (KI l j q1).1.length ((KI l j q1).1.map Qa.v) = (KI l j q1).1.map Qa.v:=zh (by simp)
  simp only [fnS]
  generalize KI l j q1 = x at *
  have hnl:((YI x.1).map Qa.v).length = (YI x.1).length:=zb _
  repeat' (first|(refine zsk ?_;intro K' hK)|refine zsp ?_|(refine zsc ?_ ?_<;>intro hc<;>first|exact znh|try simp only [znz] at hc)|simp (maxSteps:=1000000) only [go_sem,Ju,e1,htl,QA]|(refine hK _ ?_;clear hK K')|apply zan|(apply asw;(focus first|exact gN))|exact zsq|fail)
  all_goals first|(refine ara (xs:=(YI x.1).map Qa.v) _ _ rfl rfl rfl rfl (Xe _ _) ?_<;>first|rfl|exact hnl|exact hnl.symm|(simp;done))
 ·have e1:decide (((n - j:Nat):Int) > 0) = true:=by simp;omega
  have hw:IntKind.i64.wrap (((n - j:Nat):Int) - 1) = ((n - (j + 1):Nat):Int):=by rw [QG (by omega) (by omega)];omega
  have hsn:=afH l j q1
  have nF:=z1 l (KI l j q1).2 hl hle
  simp only [fnS]
  generalize KI l j q1 = x at *
  obtain ⟨out,q⟩:=x
  simp only at hlen hle hsn nF ⊢
  generalize vj l q = y at *
  obtain ⟨f,q2⟩:=y
  simp only [Qa.v,Qa.cells,QA,zL,zK] at nF hsn
  have hol:(out.map Qa.v).length = out.length:=zb _
  have htl:List.take out.length (out.map Qa.v) = out.map Qa.v:=zh (by simp)
  (have zx:=za e1 (za hw (za hol htl)));refine zgo ?_;repeat' first|exact zt|apply zan|intro hc
  all_goals exact hL _ (j + 1) (Qe [(1,6002)]) (by omega) (by omega) (Qg [(1,6002)] (by simp only [go_sem,zwl,fnS,hsn,zq,List.length_cons,List.length_nil]<;>exact zcc) (by simp only [go_sem,zwl,fnS,hsn,QA,km,zL,zK,Qa.v,Qa.cells]<;>exact zcc) (by simp [fnS,Qe]) (by simp [fnS];omega) (by omega))
def wW (l:List Qa) (gap:Int) (r:List Nat) (k:Nat):Nat:=match l[k]? with
 | none=>k
 | some f=>if jc l gap f≠0 then VH l gap (jc l gap f) k k else match Uy l gap f k with
   | none=>k
   | some j=>match l[j]? with
     | some g=>if f.day - g.day≤gap then r.getD j 0 else k
     | none=>k
def aou (l:List Qa) (gap:Int):Nat→List Nat
 | 0=>[]
 | k + 1=>aou l gap k++[wW l gap (aou l gap k) k]
def rep (l:List Qa) (gap:Int) (k:Nat):Nat:=wW l gap (aou l gap k) k
theorem wd (l:List Qa) (gap:Int):∀ k,(aou l gap k).length = k
 | 0=>rfl
 | k + 1=>by rw [aou,zq,wd l gap k];rfl
theorem v7 (l:List Qa) (gap:Int):∀ (k j:Nat),j < k→(aou l gap k)[j]? = some (rep l gap j)
 | 0,j,h=>absurd h (Zf _)
 | k + 1,j,h=>by
   rw [aou]
   by_cases hj:j < k
   ·rw [zW (by rw [wd];exact hj)]
    exact v7 l gap k j hj
   ·obtain rfl:j = k:=by omega
    rw [zY (by rw [wd];exact zj _),wd,kH];rfl
theorem Vi (l:List Qa) (gap:Int) (f:Qa):∀ n,match Uy l gap f n with
  | some j=>j < n∧KA l gap f j = true∧∀ i,j < i→i < n→KA l gap f i = false
  | none=>∀ i,i < n→KA l gap f i = false
 | 0=>fun i h=>absurd h (Zf _)
 | n + 1=>by
   have ih:=Vi l gap f n
   rw [Uy]
   rcases hb:KA l gap f n with _|_
   ·rw [if_neg (by simp)]
    rcases hk:Uy l gap f n with _|j
    ·rw [hk] at ih
     intro i hi
     by_cases h:i < n
     ·exact ih i h
     ·obtain rfl:i = n:=by omega
      exact hb
    ·rw [hk] at ih
     obtain ⟨h1,h2,h3⟩:=ih
     refine ⟨by omega,h2,fun i hi hi2=>?_⟩
     by_cases h:i < n
     ·exact h3 i hi h
     ·obtain rfl:i = n:=by omega
      exact hb
   ·rw [if_pos rfl]
    exact ⟨Nat.lt_succ_self _,hb,fun i h1 h2=>by omega⟩
theorem vh (l:List Qa) (gap m:Int) (i:Nat):∀ n,n≤i→VH l gap m i n≤i∧(VH l gap m i n < i→atM l gap (VH l gap m i n) = m)∧∀ j,i - n≤j→j < VH l gap m i n→atM l gap j≠m
 | 0,_=>⟨zj _,fun h=>absurd h (Nat.lt_irrefl _),fun j h1 h2=>by rw [VH] at h2;omega⟩
 | n + 1,hn=>by
   obtain ⟨h1,h2,h3⟩:=vh l gap m i n (by omega)
   rw [VH]
   by_cases h:atM l gap (i - (n + 1)) = m
   ·rw [if_pos h]
    exact ⟨by omega,fun _=>h,fun j a b=>by omega⟩
   ·rw [if_neg h]
    refine ⟨h1,h2,fun j a b=>?_⟩
    by_cases hj:j = i - (n + 1)
    ·subst hj;exact h
    ·exact h3 j (by omega) b
theorem apV (l:List Qa) (gap:Int) (k:Nat):rep l gap k≤k:=by
 induction k using Nat.strongRecOn with
 | _ k ih =>
   rw [rep,wW]
   split
   ·exact zj _
   ·rename_i f hf
    split
    ·exact (vh l gap (jc l gap f) k k (zj _)).1
    ·have hs:=Vi l gap f k
     split
     ·exact zj _
     ·rename_i j hj
      rw [hj] at hs
      split
      ·split
       ·rw [zJ,v7 l gap k j hs.1]
        have:=ih j hs.1
        exact Zt this (Nat.le_of_lt hs.1)
       ·exact zj _
      ·exact zj _
theorem afj (l:List Qa) (gap:Int):∀ k,k≤l.length→YC l gap k = (aou l gap k).map fun n:Nat=>(n:Int)
 | 0,_=>rfl
 | k + 1,h=>by
   have ih:=afj l gap k (by omega)
   have hg:l[k]? = some l[k]:=zd (by omega)
   generalize l[k] = f at hg
   rw [YC,hg]
   simp only
   rw [aou,km,ih]
   congr 1
   simp only [zL,zK,kx,and_true]
   rw [wW,hg,xH]
   simp only
   split
   ·rfl
   ·have hs:=Vi l gap f k
    rcases hk:Uy l gap f k with _|j
    ·rfl
    ·rw [hk] at hs
     have hj:l[j]? = some (l[j]'(by omega)):=zd (by omega)
     dsimp only
     rw [hj]
     dsimp only
     split
     ·have h1:=v7 l gap k j hs.1
      rw [zJ,zJ,acr,zW (by rw [zb,wd];exact hs.1),zf,h1];rfl
     ·rfl
theorem aiW {l:List Qa} {gap:Int} {x:Nat} {f:Qa} (h:l[x]? = some f) (hm:jc l gap f≠0):atM l gap (rep l gap x) = jc l gap f∧∀ j,j < rep l gap x→atM l gap j≠jc l gap f:=by
 have e:rep l gap x = VH l gap (jc l gap f) x x:=by rw [rep,wW,h];simp only;rw [if_pos hm]
 obtain ⟨h1,h2,h3⟩:=vh l gap (jc l gap f) x x (zj _)
 rw [e]
 refine ⟨?_,fun j hj=>h3 j (by omega) hj⟩
 rcases kM (VH l gap (jc l gap f) x x) x with h4|h4
 ·exact h2 h4
 ·have h5:VH l gap (jc l gap f) x x = x:=by omega
  rw [h5,atM,h]
theorem aj0 {l:List Qa} {gap:Int} {x y:Nat} {f g:Qa} (hx:l[x]? = some f) (hy:l[y]? = some g) (hm:jc l gap f≠0) (he:jc l gap f = jc l gap g):rep l gap x = rep l gap y:=by
 obtain ⟨a1,a2⟩:=aiW hx hm
 obtain ⟨b1,b2⟩:=aiW hy (by rw [← he];exact hm)
 rcases Zq (rep l gap x) (rep l gap y) with h|h|h
 ·exact absurd (a1.trans he) (b2 _ h)
 ·exact h
 ·exact absurd (b1.trans he.symm) (a2 _ h)
theorem adv (l:List Qa) (f:Qa) (gap:Int):∀ k,Kz l f gap k = -1∨∃ (n:Nat) (g:Qa),Kz l f gap k = n∧l[n]? = some g∧g.mach≠0
 | 0=>.inl rfl
 | k + 1=>by
   have ih:=adv l f gap k
   rw [yx]
   rcases hg:l[k]? with _|g
   ·rw [UT,hg];exact ih
   ·rw [ab2 hg]
    rcases hc:((g.mach == 0) || ((g.host != f.host) || decide (awI g.day f.day > gap))) with _|_
    ·rw [if_neg (by simp)]
     have hm:g.mach≠0:=by
      intro h;rw [h] at hc;simp at hc
     have me:∃ (n:Nat) (q:Qa),(k:Int) = n∧l[n]? = some q∧q.mach≠0:=⟨k,g,rfl,hg,hm⟩
     by_cases h4:Kz l f gap k < 0
     ·rw [if_pos h4];exact .inr me
     ·rw [if_neg h4]
      rcases ih with ih|⟨n,q,e1,e2,e3⟩
      ·omega
      ·rw [e1,Int.toNat_natCast,e2]
       simp only
       split
       ·exact .inr me
       ·exact .inr ⟨n,q,rfl,e2,e3⟩
    ·rw [if_pos rfl];exact ih
theorem abe (l:List Qa) (f:Qa) (gap:Int):X4 l f gap = -1∨∃ (n:Nat) (g:Qa),X4 l f gap = n∧l[n]? = some g∧g.mach≠0:=adv l f gap l.length
theorem wz {l:List Qa} {gap:Int} {f:Qa} (h:f.mach≠0):jc l gap f = f.mach:=by rw [jc,if_pos h]
theorem ad9 {l:List Qa} {gap:Int} {f g:Qa} {n:Nat} (h:f.mach = 0) (hn:X4 l f gap = n) (hg:l[n]? = some g):jc l gap f = g.mach:=by
 rw [jc,if_neg (by simpa using h),hn,Int.toNat_natCast,hg]
 simp only
 rw [if_pos (by omega)]
theorem aib {l:List Qa} {gap:Int} {f:Qa} (h:f.mach = 0) (hn:X4 l f gap < 0):jc l gap f = 0:=by
 rw [jc,if_neg (by simpa using h)]
 split
 ·rw [if_neg (by omega)]
 ·rfl
theorem j6 {p:List Nat} (hp:PW p) {i k:Nat} (hi:i < 400) (hk:k < 400):∀ x,Qp (j7 p i k) x = if Qp p x = max (Qp p i) (Qp p k) then min (Qp p i) (Qp p k) else Qp p x:=by
 have hM:Qp p (max (Qp p i) (Qp p k)) = max (Qp p i) (Qp p k):=by
  rcases Nat.le_total (Qp p i) (Qp p k) with h|h
  ·rw [Nat.max_eq_right h];exact qe hp k
  ·rw [Nat.max_eq_left h];exact qe hp i
 have hm:Qp p (min (Qp p i) (Qp p k)) = min (Qp p i) (Qp p k):=by
  rcases Nat.le_total (Qp p i) (Qp p k) with h|h
  ·rw [kQ h];exact qe hp i
  ·rw [Nat.min_eq_right h];exact qe hp k
 have h1:=qX hp i
 have h2:=qX hp k
 have hp':=ac0 hp i k
 have hle:min (Qp p i) (Qp p k)≤max (Qp p i) (Qp p k):=by omega
 have hlt:max (Qp p i) (Qp p k) < p.length:=by rw [hp.len];omega
 have hget:∀ x,(j7 p i k)[x]? = if max (Qp p i) (Qp p k) = x then some (min (Qp p i) (Qp p k)) else p[x]?:=fun x=>by
  rw [j7,ka]
  by_cases h:max (Qp p i) (Qp p k) = x
  ·rw [if_pos h,if_pos h,if_pos hlt]
  ·rw [if_neg h,if_neg h]
 generalize max (Qp p i) (Qp p k) = M at *
 generalize min (Qp p i) (Qp p k) = m at *
 intro x
 induction x using Nat.strongRecOn with
 | _ x ih =>
   by_cases hx:M = x
   ·subst hx
    have e:(j7 p i k)[M]? = some m:=by rw [hget,if_pos rfl]
    rw [Vw hp' e,hM,if_pos rfl]
    by_cases hmM:m = M
    ·rw [if_pos hmM,hmM]
    ·rw [if_neg hmM,ih m (by omega),hm]
     split
     ·rfl
     ·rfl
   ·have e:=hget x
    rw [if_neg hx] at e
    rcases hpx:p[x]? with _|j
    ·have a1:Qp p x = x:=by rw [Qp,adh,hpx]
     rw [hpx] at e
     have a2:Qp (j7 p i k) x = x:=by rw [Qp,adh,e]
     rw [a1,a2,if_neg (fun h=>hx h.symm)]
    ·rw [hpx] at e
     rw [Vw hp' e,Vw hp hpx]
     by_cases hjx:j = x
     ·rw [if_pos hjx,if_pos hjx,if_neg (fun h=>hx h.symm)]
     ·have:=hp.le x j hpx
      rw [if_neg hjx,if_neg hjx]
      exact ih j (by omega)
theorem UD {p:List Nat} (hp:PW p) {i k x y:Nat} (hi:i < 400) (hk:k < 400) (h:Qp p x = Qp p y):Qp (j7 p i k) x = Qp (j7 p i k) y:=by
 rw [j6 hp hi hk,j6 hp hi hk,h]
theorem abj {p:List Nat} (hp:PW p) {i k:Nat} (hi:i < 400) (hk:k < 400):Qp (j7 p i k) i = Qp (j7 p i k) k:=by
 rw [j6 hp hi hk,j6 hp hi hk]
 rcases Nat.le_total (Qp p i) (Qp p k) with h|h
 ·rw [Nat.max_eq_right h,kQ h,if_pos rfl]
  split<;>rfl
 ·rw [Nat.max_eq_left h,Nat.min_eq_right h,if_pos rfl]
  split<;>rfl
structure UI (l:List Qa) (gap:Int) (k:Nat) (s:JS):Prop where
 rp:∀ x,rep l gap (Qp s.p x) = rep l gap x
 vs:∀ (a v:Nat),s.vs[a]? = some v→∃ (g:Qa) (m:Int),s.ks[a]? = some m∧l[v]? = some g∧g.mach = m
 key:∀ (x:Nat) (g:Qa),x < k→l[x]? = some g→g.mach≠0→∃ a v:Nat,aeG g.mach s.ks 0 = some a∧s.vs[a]? = some v∧Qp s.p x = Qp s.p v
 near:∀ (x n:Nat) (g:Qa),x < k→l[x]? = some g→g.mach = 0→X4 l g gap = n→Qp s.p x = Qp s.p n
 lo:∀ (x:Nat) (g:Qa),x < k→l[x]? = some g→g.mach = 0→X4 l g gap < 0→(x:Int)≤s.loose
 lt:∀ n:Nat,s.loose = n→∃ g:Qa,l[n]? = some g∧g.mach = 0∧X4 l g gap < 0
 lnk:∀ (x j:Nat) (f g:Qa),x < k→l[x]? = some f→f.mach = 0→X4 l f gap < 0→Uy l gap f x = some j→l[j]? = some g→f.day - g.day≤gap→Qp s.p x = Qp s.p j
theorem akn {k:Int}:∀ {ks:List Int} {i a:Nat},aeG k ks i = some a→ks[a - i]? = some k
 | [],_,_,h=>by cases h
 | e :: r,i,a,h=>by
   rw [aeG] at h
   split at h
   ·rename_i he;cases h;rw [kH,he];rfl
   ·have h1:=(agc h).1
    have h2:=akn h
    rw [show a - i = (a - (i + 1)) + 1 by omega,List.getElem?_cons_succ]
    exact h2
theorem ako {k:Int}:∀ {ks:List Int} {i a:Nat} (r:List Int),aeG k ks i = some a→aeG k (ks++r) i = some a
 | [],_,_,_,h=>by cases h
 | e :: l,i,a,r,h=>by
   rw [aeG] at h
   rw [List.cons_append,aeG]
   split at h
   ·rename_i he;rw [if_pos he];exact h
   ·rename_i he;rw [if_neg he];exact ako r h
theorem akm {k:Int}:∀ {ks:List Int} {i:Nat},aeG k ks i = none→aeG k (ks++[k]) i = some (i + ks.length)
 | [],i,_=>by simp [aeG]
 | e :: l,i,h=>by
   rw [aeG] at h
   split at h
   ·cases h
   ·rename_i he
    rw [List.cons_append,aeG,if_neg he,akm h]
    simp only [List.length_cons];congr 1;omega
theorem wj {l:List Qa} {gap:Int} {f g:Qa} {k:Nat} (h:l[k]? = some g):KA l gap f k = true↔g.host = f.host∧g.mach = 0∧X4 l g gap < 0:=by
 rw [KA,h]
 simp only [zw,ky,zA]
end Av
end
