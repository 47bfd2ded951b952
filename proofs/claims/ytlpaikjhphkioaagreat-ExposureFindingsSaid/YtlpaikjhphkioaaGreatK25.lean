/- K25 -/
import Derived.Test.YtlpaikjhphkioaaGreatK24
import Derived.Test.YtlpaikjhphkioaaGreatK12
import Derived.Test.YtlpaikjhphkioaaGreatK23
import Derived.Test.YtlpaikjhphkioaaGreatK21
set_option linter.unusedVariables false
set_option linter.unusedSimpArgs false
noncomputable section
set_option maxRecDepth 10000
set_option maxHeartbeats 4000000
namespace Av
open Go
attribute [local irreducible] AWp Uv qW xf awS awC abB awQ acd QZ UL aa2 awR Kc awB okR yu ris
def aiU (day age:Int):Bool:=decide (day < 0) || (decide (day > 40000) || (decide (age < 0) || decide (age > 4000)))
def aqC (gap day age:Int):Bool:=decide (gap < 0) || (decide (gap > 4000) || aiU day age)
def JF (l:List Qa) (gap day age:Int):Int:=if Y1 l = true then (if aqC gap day age = true then 2 else 0) else 24
structure ajM (l:List Qa) (gap day age:Int):Prop where
 nm:Y1 l = true
 g:0≤gap∧gap≤4000
 d:0≤day∧day≤40000
 a:0≤age∧age≤4000
theorem j5 {l:List Qa} {gap day age:Int}:JF l gap day age = 0↔ajM l gap day age:=by
 unfold JF
 constructor
 ·intro h
  split at h
  ·rename_i h1
   split at h
   ·cases h
   ·rename_i h2
    simp only [aqC,aiU,Bool.not_eq_true,kX,zP] at h2
    exact ⟨h1,by omega,by omega,by omega⟩
  ·cases h
 ·rintro ⟨h1,h2,h3,h4⟩
  rw [if_pos h1,if_neg]
  simp only [aqC,aiU,Bool.not_eq_true,kX,zP]
  omega
theorem aiT {day age:Int}:aiU day age = false↔(0≤day∧day≤40000)∧(0≤age∧age≤4000):=by
 simp only [aiU,kX,zP]
 omega
theorem adC {l:List Qa} {gap day age:Int} (h:J8 l gap≠0):JF l gap day age = J8 l gap:=by
 unfold J8 at h ⊢
 unfold JF
 by_cases h1:Y1 l = true
 ·rw [if_pos h1] at h
  rw [if_pos h1,if_pos h1]
  split at h
  ·rename_i h2
   rw [if_pos h2,if_pos]
   rw [aqC]
   rcases h2 with h2|h2
   ·rw [zo h2];rfl
   ·rw [zo h2];simp
  ·exact absurd rfl h
 ·rw [if_neg h1,if_neg h1]
theorem ap5 {l:List Qa} {gap day age:Int} (h:J8 l gap = 0) (hr:aiU day age = false):JF l gap day age = 0:=by
 unfold J8 at h
 unfold JF
 split at h
 ·rename_i h1
  rw [if_pos h1]
  split at h
  ·cases h
  ·rw [aqC,zp (by omega),zp (by omega),hr];rfl
 ·cases h
theorem aoY {l:List Qa} {gap day age:Int} (hr:aiU day age = false):JF l gap day age = J8 l gap:=by
 by_cases h:J8 l gap = 0
 ·rw [ap5 h hr,h]
 ·exact adC h
theorem ajM.rng {l:List Qa} {gap day age:Int} (h:ajM l gap day age):aiU day age = false:=aiT.2 ⟨h.d,h.a⟩
theorem anl {l:List Qa} {gap day age:Int} (h:J8 l gap = 0):JF l gap day age = if aiU day age = true then 2 else 0:=by
 unfold J8 at h
 unfold JF
 split at h
 ·rename_i h1
  rw [if_pos h1]
  split at h
  ·cases h
  ·rename_i h2
   rw [aqC,zp (by omega),zp (by omega)];rfl
 ·cases h
def fcE (e:QT):List V:=[V.int e.num,.sl 1 (e.hosts.map V.str),.sl 1 (e.machs.map V.int),.sl 1 (Qt e.finds)]
def xJ (l:List Qa) (e:QT) (day age:Int) (k:Nat) (m:PM):St:=Ju [(0,.sl 11 (l.map Qa.v)),(2,V.int day),(3,V.int age),(5,.ptr 0 0),(12,.mp 1),(51,.sl 1 (Qt e.finds)),(52,V.int e.finds.length),(53,V.int k)] [(0,.box true (fcE e)),(1,.map (m.1.map PPl.v) (Qt m.2) 0)] 2
def adR (l:List Qa) (e:QT) (m:PM) (is:List Nat):St:=Ju [(0,.sl 11 (l.map Qa.v)),(5,.ptr 0 0),(18,.hd 3 0 (ag4 l e.num m.2 is).length),(118,.ptr 2 0)] [(0,.box true (fcE e)),(1,.map (m.1.map PPl.v) (Qt m.2) 0),(2,.iter 1 m.2.length is m.2.length),(3,.buf true 8 ((ag4 l e.num m.2 is).map Qc.v))] 4
def afE (l:List Qa) (e:QT) (day age:Int):V:=if aiU day age = true then .tup [.sl 8 [],V.int 2] else .tup [.sl 8 ((XR l e.num e.finds day age).map Qc.v),V.int 0]
def K3:=qd Proofs.Tryz.f58 [zhn 32]
def jW (Γ:Env) (f:Nat):Prop:=∀ (l:List Qa) (e:QT) (day age:Int) (hl:l.length < 2 ^ 40) (hz:∀ x∈l,x.Sz) (hnm:Y1 l = true) (ha:e.finds.Pairwise (· < ·)) (hb:∀ i∈e.finds,i < l.length) (hn:e.finds.length≤12),EvC Γ f [.sl 11 (l.map Qa.v),e.v,V.int day,V.int age] (afE l e day age)
theorem ae4 {Γ:Env} {f:Nat} (h:Has Γ.P f 150 K3.1.1.ac K3.1.2) (z0:Kv Γ 88) (z1:WD Γ 89) (z2:vT Γ 90) (z3:Js Γ 91) (z4:Kw Γ 92):jW Γ f:=by
 intro l e day age hl hz hnm ha hb hn
 refine Jy h zsi (by unfold afE;split<;>simp only [V.closed,Qd,and_self]) fun C hC hm=>?_
 subst hC
 simp only [K3,qd,DC.ac]
 have gI:=z0 l e ha hb hn
 have gN:=z1 l hl hz
 rw [hnm] at gN
 have gN:=gN.b
 have hpc:(Qt e.finds).length = e.finds.length:=zb _
 simp only [QT.v] at gI
 rcases hrg:aiU day age with _|_
 rotate_left
 ·rw [afE,if_pos hrg]
  rw [aiU] at hrg
  simp only [QT.v]
  rcases d1:decide (day < 0) with _|_
  rotate_left
  ·repeat' (first|(refine zsk ?_;intro K' hK)|(refine zrg ?_;intro K' hK)|refine zsp ?_|(refine zsc ?_ ?_<;>intro hc<;>first|exact znh|try simp only [znz] at hc)|simp (maxSteps:=1000000) only [go_sem,d1,hpc]|(refine hK _ ?_;clear hK K')|apply zan|(apply WU;(focus exact rfl);(focus first|exact (z3 _ _ _ zsd zsd));(focus exact rfl);(focus (first|(simp;done)|omega|(simp only [zb];omega))))|((first|apply QF|apply QC);(focus first|exact C gI|exact gN|exact (z0 _ _ zsd zsd zsd).b|exact (z1 _ zsd zsd).b|exact (z2 _).b|exact (z4 _ _).b))|exact zsq|fail)
   all_goals exact zr
  rcases d2:decide (day > 40000) with _|_
  rotate_left
  ·repeat' (first|(refine zsk ?_;intro K' hK)|(refine zrg ?_;intro K' hK)|refine zsp ?_|(refine zsc ?_ ?_<;>intro hc<;>first|exact znh|try simp only [znz] at hc)|simp (maxSteps:=1000000) only [go_sem,d1,d2,hpc]|(refine hK _ ?_;clear hK K')|apply zan|(apply WU;(focus exact rfl);(focus first|exact (z3 _ _ _ zsd zsd));(focus exact rfl);(focus (first|(simp;done)|omega|(simp only [zb];omega))))|((first|apply QF|apply QC);(focus first|exact C gI|exact gN|exact (z0 _ _ zsd zsd zsd).b|exact (z1 _ zsd zsd).b|exact (z2 _).b|exact (z4 _ _).b))|exact zsq|fail)
   all_goals exact zr
  rcases d3:decide (age < 0) with _|_
  rotate_left
  ·repeat' (first|(refine zsk ?_;intro K' hK)|(refine zrg ?_;intro K' hK)|refine zsp ?_|(refine zsc ?_ ?_<;>intro hc<;>first|exact znh|try simp only [znz] at hc)|simp (maxSteps:=1000000) only [go_sem,d1,d2,d3,hpc]|(refine hK _ ?_;clear hK K')|apply zan|(apply WU;(focus exact rfl);(focus first|exact (z3 _ _ _ zsd zsd));(focus exact rfl);(focus (first|(simp;done)|omega|(simp only [zb];omega))))|((first|apply QF|apply QC);(focus first|exact C gI|exact gN|exact (z0 _ _ zsd zsd zsd).b|exact (z1 _ zsd zsd).b|exact (z2 _).b|exact (z4 _ _).b))|exact zsq|fail)
   all_goals exact zr
  have d4:decide (age > 4000) = true:=by rw [d1,d2,d3] at hrg;exact hrg
  repeat' (first|(refine zsk ?_;intro K' hK)|(refine zrg ?_;intro K' hK)|refine zsp ?_|(refine zsc ?_ ?_<;>intro hc<;>first|exact znh|try simp only [znz] at hc)|simp (maxSteps:=1000000) only [go_sem,d1,d2,d3,d4,hpc]|(refine hK _ ?_;clear hK K')|apply zan|(apply WU;(focus exact rfl);(focus first|exact (z3 _ _ _ zsd zsd));(focus exact rfl);(focus (first|(simp;done)|omega|(simp only [zb];omega))))|((first|apply QF|apply QC);(focus first|exact C gI|exact gN|exact (z0 _ _ zsd zsd zsd).b|exact (z1 _ zsd zsd).b|exact (z2 _).b|exact (z4 _ _).b))|exact zsq|fail)
  all_goals exact zr
 rw [afE,if_neg (by rw [hrg];decide)]
 obtain ⟨hdy,hag⟩:=aiT.1 hrg
 have d1:decide (day < 0) = false:=zp (by omega)
 have d2:decide (day > 40000) = false:=zp (by omega)
 have d3:decide (age < 0) = false:=zp (by omega)
 have d4:decide (age > 4000) = false:=zp (by omega)
 simp only [QT.v]
 repeat' (first|(refine zsk ?_;intro K' hK)|(refine zrg ?_;intro K' hK)|refine zsp ?_|(refine zsc ?_ ?_<;>intro hc<;>first|exact znh|try simp only [znz] at hc)|simp (maxSteps:=1000000) only [go_sem,d1,d2,d3,d4,hpc]|(refine hK _ ?_;clear hK K')|apply zan|(apply WU;(focus exact rfl);(focus first|exact (z3 _ _ _ zsd zsd));(focus exact rfl);(focus (first|(simp;done)|omega|(simp only [zb];omega))))|((first|apply QF|apply QC);(focus first|exact C gI|exact gN|exact (z0 _ _ zsd zsd zsd).b|exact (z1 _ zsd zsd).b|exact (z2 _).b|exact (z4 _ _).b))|exact zsq|fail)
 refine Qo (ι:=Nat) (fun k=>k≤e.finds.length) (fun k=>xJ l e day age k (agH l day age (e.finds.take k))) (fun k=>e.finds.length - k) 0 (zH _) (Qe [(1,33000)]) (Qg [(1,33000)] (by simp only [go_sem,zwl,xJ,fcE,zb]<;>exact zcc) (by simp only [go_sem,zwl,xJ,fcE,Qq,Qy]<;>exact zcc) (by simp [xJ,Qe]) (by simp [xJ];omega) (by omega)) fun k hk K' hL=>?_
 have hM:=abx l day age e.finds k hk
 rcases hdr:e.finds.drop k with _|⟨i,r⟩
 ·have hkl:=Qs hdr
  have e1:decide ((k:Int) < (e.finds.length:Int)) = false:=by simp;omega
  obtain rfl:k = e.finds.length:=by omega
  clear hL
  rw [zR] at hM ⊢
  have hvs:=fun is hd hb he=>aok (l:=l) (num:=(e.num:Int)) (day:=day) (age:=age) (fs:=e.finds) (is:=is) hd hb he
  generalize agH l day age e.finds = m at *
  have hkl:m.1.length = m.2.length:=hM.len
  repeat' (first|(refine zsk ?_;intro K' hK)|(refine zrg ?_;intro K' hK)|refine zsp ?_|(refine zsc ?_ ?_<;>intro hc<;>first|exact znh|try simp only [znz] at hc)|simp (maxSteps:=1000000) only [go_sem,xJ,fcE,Ju,e1,hkl,zb,kC]|(refine hK _ ?_;clear hK K')|apply zan|(apply WU;(focus exact rfl);(focus first|exact (z3 _ _ _ zsd zsd));(focus exact rfl);(focus (first|(simp;done)|omega|(simp only [zb];omega))))|((first|apply QF|apply QC);(focus first|exact (z0 _ _ zsd zsd zsd).b|exact (z1 _ zsd zsd).b|exact (z2 _).b|exact (z4 _ _).b))|exact zsq|fail)
  have hv0:ag4 l e.num m.2 [] = []:=rfl
  refine Qo (ι:=List Nat) (fun is=>is.Nodup∧∀ a∈is,a < m.2.length) (fun is=>adR l e m is) (fun is=>m.2.length - is.length) [] ⟨kF,by simp⟩ (Qe [(3,1002),(2,3002)]) (Qg [(3,1002),(2,3002)] (by simp only [go_sem,zwl,adR,fcE,hv0,List.length_nil,zK,zb]<;>exact zcc) (by simp only [go_sem,zwl,adR,fcE,hv0,List.length_nil,zK,Qq,Qy]<;>exact zcc) (by simp [adR,Qe]) (by simp [adR];omega) (by omega)) fun is his K' hL=>?_
  obtain ⟨his1,his2⟩:=his
  have hln:∀ js:List Nat,js.Nodup→(∀ a∈js,a < m.2.length)→js.length≤m.2.length:=fun js h1 h2=>by
   have:=List.Nodup.length_le_of_subset h1 (fun a ha=>kW.2 (h2 a ha))
   rwa [kU] at this
  have hvl:(ag4 l e.num m.2 is).length≤is.length:=List.length_filterMap_le _ _
  have hil:=hln is his1 his2
  have hml:=hM.le
  rcases hun:ada 0 m.2.length is with _|⟨u,us⟩
  ·have hall:∀ a,a < m.2.length→a∈is:=fun a ha=>by
    by_cases hin:a∈is
    ·exact hin
    ·have:a∈ada 0 m.2.length is:=wh.2 ⟨ha,by rwa [kC]⟩
     rw [hun] at this;cases this
   have hsort:=hvs is his1 his2 hall
   clear hL hvs
   simp only [adR,fcE]
   generalize ag4 l e.num m.2 is = out at *
   have hol:out.length≤12:=by omega
   have gT:=z3 out 92 af0 (fun x _ y _=>z4 x y) hol
   have d5:(fun x y:Qc=>decide (af0 x y < 0)) = aeK:=rfl
   rw [d5,hsort] at gT
   have htk:List.take out.length ((XR l e.num e.finds day age).map Qc.v) = (XR l e.num e.finds day age).map Qc.v:=zh (by rw [zb,← hsort,aaj];omega)
   repeat' (first|(refine zsk ?_;intro K' hK)|(refine zrg ?_;intro K' hK)|refine zsp ?_|(refine zsc ?_ ?_<;>intro hc<;>first|exact znh|try simp only [znz] at hc)|simp (maxSteps:=1000000) only [go_sem,Ju,hkl,zb,kC,hun,htk]|(refine hK _ ?_;clear hK K')|apply zan|(apply WU;(focus exact rfl);(focus first|exact gT|exact (z3 _ _ _ zsd zsd));(focus exact rfl);(focus (first|(simp;done)|omega|(simp only [zb];omega))))|((first|apply QF|apply QC);(focus first|exact (z0 _ _ zsd zsd zsd).b|exact (z1 _ zsd zsd).b|exact (z2 _).b|exact (z4 _ _).b))|exact zsq|fail)
   all_goals (refine Qk _ rfl ?_;simp only [go_sem];rw [htk];done)
  have hU:∀ x,x∈u :: us→x < m.2.length∧x ∉ is∧∃ i f,m.2[x]? = some i∧l[i]? = some f∧m.1[x]? = some (J6 f):=fun x hx=>by
   have h1:=wh.1 (hun ▸ hx)
   rw [kC] at h1
   obtain ⟨f,h2,h3⟩:=hM.pt x _ (zd h1.1)
   exact ⟨h1.1,h1.2,_,f,zd h1.1,h2,h3⟩
  have hvis:∀ x i,m.2[x]? = some i→ag4 l e.num m.2 (is++[x]) = ag4 l e.num m.2 is++(KE l e.num i).toList:=fun x i h=>by
   rw [ag4,ag4,ZQ,List.filterMap_cons,h,Option.bind_some,List.filterMap_nil]
   rcases KE l e.num i with _|y<;>rfl
  clear hvs
  simp only [adR,fcE]
  repeat' (first|(refine zsk ?_;intro K' hK)|(refine zrg ?_;intro K' hK)|refine zsp ?_|(refine zsc ?_ ?_<;>intro hc<;>first|exact znh|try simp only [znz] at hc)|simp (maxSteps:=1000000) only [go_sem,Ju,hkl,zb,kC,hun]|(refine hK _ ?_;clear hK K')|apply zan|(apply WU;(focus exact rfl);(focus first|exact (z3 _ _ _ zsd zsd));(focus exact rfl);(focus (first|(simp;done)|omega|(simp only [zb];omega))))|((first|apply QF|apply QC);(focus first|exact (z0 _ _ zsd zsd zsd).b|exact (z1 _ zsd zsd).b|exact (z2 _).b|exact (z4 _ _).b))|exact zsq|fail)
  ·obtain ⟨x,hx0⟩:∃ x,x = u:=⟨u,rfl⟩
   have hx:x∈u :: us:=hx0 ▸ kG
   rw [← hx0]
   obtain ⟨hx1,hx2,i,f,hvx,hfx,hkx⟩:=hU x hx
   have vk:(m.1.map PPl.v)[x]? = some (J6 f).v:=by rw [zf,hkx];rfl
   have vv:=YE hvx
   have hv1:=hvis x i hvx
   have hnd:(is++[x]).Nodup:=by rw [ba];exact ⟨his1,by simp,fun a ha b hb=>by rw [zv.1 hb];exact fun he=>hx2 (he ▸ ha)⟩
   have hbd:∀ a∈is++[x],a < m.2.length:=fun a ha=>by
    rcases zT.1 ha with h|h
    ·exact his2 a h
    ·rw [zv.1 h];exact hx1
   have hln2:=hln _ hnd hbd
   rw [zq,List.length_singleton] at hln2
   have hms:m.2.length - (is++[x]).length < m.2.length - is.length:=by rw [zq,List.length_singleton];omega
   by_cases h8:f.kind = 8
   ·have e8:(f.kind != 8) = false:=by simpa using h8
    rw [KE,hfx] at hv1
    simp only [h8,if_true,Option.toList_none,ki] at hv1
    repeat' (first|(refine zsk ?_;intro K' hK)|(refine zrg ?_;intro K' hK)|refine zsp ?_|(refine zsc ?_ ?_<;>intro hc<;>first|exact znh|try simp only [znz] at hc)|simp (maxSteps:=1000000) only [go_sem,Ju,hkl,e8,vk,vv,hfx,Int.toNat_natCast,zf,zb,kC,ZU,Nat.sub_zero,zH,Qa.v,Qa.cells]|(refine hK _ ?_;clear hK K')|apply zan|(apply WU;(focus exact rfl);(focus first|exact (z3 _ _ _ zsd zsd));(focus exact rfl);(focus (first|(simp;done)|omega|(simp only [zb];omega))))|((first|apply QF|apply QC);(focus first|exact (z0 _ _ zsd zsd zsd).b|exact (z1 _ zsd zsd).b|exact (z2 _).b|exact (z4 _ _).b))|exact zsq|fail)
    all_goals exact hL _ (is++[x]) (Qe []) ⟨hnd,hbd⟩ hms (Qg [] (by simp only [go_sem,zwl,adR,fcE,hv1,zb]<;>exact zcc) (by simp only [go_sem,zwl,adR,fcE,hv1,Qq,Qy]<;>exact zcc) (by simp [adR,Qe]) (by simp [adR]) (by omega))
   ·have e8:(f.kind != 8) = true:=by simpa using h8
    rw [KE,hfx] at hv1
    simp only [h8,if_false,Option.toList_some] at hv1
    have hol:(ag4 l e.num m.2 is).length≤12:=by omega
    generalize ag4 l e.num m.2 is = out at *
    have hll:(out.map Qc.v).length = out.length:=zb _
    have htk:(out.map Qc.v).take out.length = out.map Qc.v:=zh (by simp)
    repeat' (first|(refine zsk ?_;intro K' hK)|(refine zrg ?_;intro K' hK)|refine zsp ?_|(refine zsc ?_ ?_<;>intro hc<;>first|exact znh|try simp only [znz] at hc)|simp (maxSteps:=1000000) only [go_sem,Ju,hkl,e8,vk,vv,hfx,htk,hll,Int.toNat_natCast,zf,zb,kC,ZU,Nat.sub_zero,zH,Qa.v,Qa.cells]|(refine hK _ ?_;clear hK K')|apply zan|(apply WU;(focus exact rfl);(focus first|exact (z3 _ _ _ zsd zsd));(focus exact rfl);(focus (first|(simp;done)|omega|(simp only [zb];omega))))|((first|apply QF|apply QC);(focus first|exact (z0 _ _ zsd zsd zsd).b|exact (z1 _ zsd zsd).b|exact (z2 _).b|exact (z4 _ _).b))|exact zsq|fail)
    all_goals exact hL _ (is++[x]) (Qe [(3,30004)]) ⟨hnd,hbd⟩ hms (Qg [(3,30004)] (by simp only [go_sem,zwl,adR,fcE,hv1,zq,List.length_singleton]<;>exact zcc) (by simp only [go_sem,zwl,adR,fcE,hv1,Qq,Qy,km,zL,zK,Qc.v,Qc.cells,J7]<;>exact zcc) (by simp [adR,Qe]) (by simp [adR];omega) (by omega))
  ·intro x hx
   have hx:x∈u :: us:=kL _ hx
   obtain ⟨hx1,hx2,i,f,hvx,hfx,hkx⟩:=hU x hx
   have vk:(m.1.map PPl.v)[x]? = some (J6 f).v:=by rw [zf,hkx];rfl
   have vv:=YE hvx
   have hv1:=hvis x i hvx
   have hnd:(is++[x]).Nodup:=by rw [ba];exact ⟨his1,by simp,fun a ha b hb=>by rw [zv.1 hb];exact fun he=>hx2 (he ▸ ha)⟩
   have hbd:∀ a∈is++[x],a < m.2.length:=fun a ha=>by
    rcases zT.1 ha with h|h
    ·exact his2 a h
    ·rw [zv.1 h];exact hx1
   have hln2:=hln _ hnd hbd
   rw [zq,List.length_singleton] at hln2
   have hms:m.2.length - (is++[x]).length < m.2.length - is.length:=by rw [zq,List.length_singleton];omega
   by_cases h8:f.kind = 8
   ·have e8:(f.kind != 8) = false:=by simpa using h8
    rw [KE,hfx] at hv1
    simp only [h8,if_true,Option.toList_none,ki] at hv1
    repeat' (first|(refine zsk ?_;intro K' hK)|(refine zrg ?_;intro K' hK)|refine zsp ?_|(refine zsc ?_ ?_<;>intro hc<;>first|exact znh|try simp only [znz] at hc)|simp (maxSteps:=1000000) only [go_sem,Ju,hkl,e8,vk,vv,hfx,Int.toNat_natCast,zf,zb,kC,ZU,Nat.sub_zero,zH,Qa.v,Qa.cells]|(refine hK _ ?_;clear hK K')|apply zan|(apply WU;(focus exact rfl);(focus first|exact (z3 _ _ _ zsd zsd));(focus exact rfl);(focus (first|(simp;done)|omega|(simp only [zb];omega))))|((first|apply QF|apply QC);(focus first|exact (z0 _ _ zsd zsd zsd).b|exact (z1 _ zsd zsd).b|exact (z2 _).b|exact (z4 _ _).b))|exact zsq|fail)
    all_goals exact hL _ (is++[x]) (Qe []) ⟨hnd,hbd⟩ hms (Qg [] (by simp only [go_sem,zwl,adR,fcE,hv1,zb]<;>exact zcc) (by simp only [go_sem,zwl,adR,fcE,hv1,Qq,Qy]<;>exact zcc) (by simp [adR,Qe]) (by simp [adR]) (by omega))
   ·have e8:(f.kind != 8) = true:=by simpa using h8
    rw [KE,hfx] at hv1
    simp only [h8,if_false,Option.toList_some] at hv1
    have hol:(ag4 l e.num m.2 is).length≤12:=by omega
    generalize ag4 l e.num m.2 is = out at *
    have hll:(out.map Qc.v).length = out.length:=zb _
    have htk:(out.map Qc.v).take out.length = out.map Qc.v:=zh (by simp)
    repeat' (first|(refine zsk ?_;intro K' hK)|(refine zrg ?_;intro K' hK)|refine zsp ?_|(refine zsc ?_ ?_<;>intro hc<;>first|exact znh|try simp only [znz] at hc)|simp (maxSteps:=1000000) only [go_sem,Ju,hkl,e8,vk,vv,hfx,htk,hll,Int.toNat_natCast,zf,zb,kC,ZU,Nat.sub_zero,zH,Qa.v,Qa.cells]|(refine hK _ ?_;clear hK K')|apply zan|(apply WU;(focus exact rfl);(focus first|exact (z3 _ _ _ zsd zsd));(focus exact rfl);(focus (first|(simp;done)|omega|(simp only [zb];omega))))|((first|apply QF|apply QC);(focus first|exact (z0 _ _ zsd zsd zsd).b|exact (z1 _ zsd zsd).b|exact (z2 _).b|exact (z4 _ _).b))|exact zsq|fail)
    all_goals exact hL _ (is++[x]) (Qe [(3,30004)]) ⟨hnd,hbd⟩ hms (Qg [(3,30004)] (by simp only [go_sem,zwl,adR,fcE,hv1,zq,List.length_singleton]<;>exact zcc) (by simp only [go_sem,zwl,adR,fcE,hv1,Qq,Qy,km,zL,zK,Qc.v,Qc.cells,J7]<;>exact zcc) (by simp [adR,Qe]) (by simp [adR];omega) (by omega))
 obtain ⟨hk',hget,hr⟩:=Ql hdr
 have hw:=Qf (k:=k) (by omega)
 have e1:decide ((k:Int) < (e.finds.length:Int)) = true:=by simp;omega
 have hsu:=aie (l:=l) (day:=day) (age:=age) hget
 obtain ⟨f,hf⟩:∃ f,l[i]? = some f:=⟨_,zd (hb i (zu hget))⟩
 generalize agH l day age (e.finds.take k) = m at *
 obtain ⟨ks,vs⟩:=m
 have hvi:=YE hget
 have hwd:IntKind.i64.wrap (day - age) = day - age:=QG (by omega) (by omega)
 rw [arc,hf] at hsu
 dsimp only at hsu
 simp only [xJ,fcE]
 rcases h1:decide (f.day > day) with _|_
 ·rcases h2:decide (f.day < day - age) with _|_
  ·rw [if_neg (by simp at h1 h2;omega)] at hsu
   have p1:=(z2 f).b
   have hfk:=ahY (J6 f) ks 0
   have hek:=apg (J6 f)
   have hlen:=hM.len
   dsimp only at hlen
   simp only [Qa.v,Qa.cells] at p1
   rcases hix:amc (J6 f) ks 0 with _|a
   ·rw [hix] at hsu hfk
    have hm1:ks.map PPl.v++[(J6 f).v] = (ks++[J6 f]).map PPl.v:=by simp
    have hm2:=qk vs i
    repeat' (first|(refine zsk ?_;intro K' hK)|(refine zrg ?_;intro K' hK)|refine zsp ?_|(refine zsc ?_ ?_<;>intro hc<;>first|exact znh|try simp only [znz] at hc)|simp (maxSteps:=1000000) only [go_sem,Ju,e1,hw,hwd,h1,h2,hfk,hek,hm1,hm2,hvi,hf,Int.toNat_natCast,zf,Qa.v,Qa.cells]|(refine hK _ ?_;clear hK K')|apply zan|(apply WU;(focus exact rfl);(focus first|exact (z3 _ _ _ zsd zsd));(focus exact rfl);(focus (first|(simp;done)|omega|(simp only [zb];omega))))|((first|apply QF|apply QC);(focus first|exact p1|exact (z0 _ _ zsd zsd zsd).b|exact (z1 _ zsd zsd).b|exact (z2 _).b|exact (z4 _ _).b))|exact zsq|fail)
    all_goals exact hL _ (k + 1) (Qe []) (by omega) (by omega) (by rw [hsu];exact Qg [] (by simp only [go_sem,zwl,xJ,fcE,zb]<;>exact zcc) (by simp only [go_sem,zwl,xJ,fcE,Qq,Qy]<;>exact zcc) (by simp [xJ,Qe]) (by simp [xJ]) (by omega))
   ·rw [hix] at hsu hfk
    have hal:=(aai hix).2.1
    obtain ⟨v,hv⟩:∃ v,vs[a]? = some v:=⟨_,zd (by omega)⟩
    obtain ⟨g,hg,-⟩:=hM.pt a v hv
    have hvd:vs.getD a 0 = v:=by rw [zJ,hv];rfl
    simp only [hvd,hg] at hsu
    have hvc:=YE hv
    have hm1:=ado vs a i
    rcases h3:decide (f.day > g.day) with _|_
    ·rcases h4:f.day == g.day with _|_
     ·rw [amf,h3,h4,if_neg (by simp)] at hsu
      repeat' (first|(refine zsk ?_;intro K' hK)|(refine zrg ?_;intro K' hK)|refine zsp ?_|(refine zsc ?_ ?_<;>intro hc<;>first|exact znh|try simp only [znz] at hc)|simp (maxSteps:=1000000) only [go_sem,Ju,e1,hw,hwd,h1,h2,h3,h4,hfk,hek,hm1,hvc,hvi,hf,hg,Int.toNat_natCast,zf,Qa.v,Qa.cells]|(refine hK _ ?_;clear hK K')|apply zan|(apply WU;(focus exact rfl);(focus first|exact (z3 _ _ _ zsd zsd));(focus exact rfl);(focus (first|(simp;done)|omega|(simp only [zb];omega))))|((first|apply QF|apply QC);(focus first|exact p1|exact (z0 _ _ zsd zsd zsd).b|exact (z1 _ zsd zsd).b|exact (z2 _).b|exact (z4 _ _).b))|exact zsq|fail)
      all_goals exact hL _ (k + 1) (Qe []) (by omega) (by omega) (by rw [hsu];exact Qg [] (by simp only [go_sem,zwl,xJ,fcE,zb]<;>exact zcc) (by simp only [go_sem,zwl,xJ,fcE,Qq,Qy]<;>exact zcc) (by simp [xJ,Qe]) (by simp [xJ]) (by omega))
     ·rcases h5:decide (f.conf > g.conf) with _|_
      ·rw [amf,h3,h4,h5,if_neg (by decide)] at hsu
       repeat' (first|(refine zsk ?_;intro K' hK)|(refine zrg ?_;intro K' hK)|refine zsp ?_|(refine zsc ?_ ?_<;>intro hc<;>first|exact znh|try simp only [znz] at hc)|simp (maxSteps:=1000000) only [go_sem,Ju,e1,hw,hwd,h1,h2,h3,h4,h5,hfk,hek,hm1,hvc,hvi,hf,hg,Int.toNat_natCast,zf,Qa.v,Qa.cells]|(refine hK _ ?_;clear hK K')|apply zan|(apply WU;(focus exact rfl);(focus first|exact (z3 _ _ _ zsd zsd));(focus exact rfl);(focus (first|(simp;done)|omega|(simp only [zb];omega))))|((first|apply QF|apply QC);(focus first|exact p1|exact (z0 _ _ zsd zsd zsd).b|exact (z1 _ zsd zsd).b|exact (z2 _).b|exact (z4 _ _).b))|exact zsq|fail)
       all_goals exact hL _ (k + 1) (Qe []) (by omega) (by omega) (by rw [hsu];exact Qg [] (by simp only [go_sem,zwl,xJ,fcE,zb]<;>exact zcc) (by simp only [go_sem,zwl,xJ,fcE,Qq,Qy]<;>exact zcc) (by simp [xJ,Qe]) (by simp [xJ]) (by omega))
      ·rw [amf,h3,h4,h5,if_pos (by decide)] at hsu
       repeat' (first|(refine zsk ?_;intro K' hK)|(refine zrg ?_;intro K' hK)|refine zsp ?_|(refine zsc ?_ ?_<;>intro hc<;>first|exact znh|try simp only [znz] at hc)|simp (maxSteps:=1000000) only [go_sem,Ju,e1,hw,hwd,h1,h2,h3,h4,h5,hfk,hek,hm1,hvc,hvi,hf,hg,Int.toNat_natCast,zf,Qa.v,Qa.cells]|(refine hK _ ?_;clear hK K')|apply zan|(apply WU;(focus exact rfl);(focus first|exact (z3 _ _ _ zsd zsd));(focus exact rfl);(focus (first|(simp;done)|omega|(simp only [zb];omega))))|((first|apply QF|apply QC);(focus first|exact p1|exact (z0 _ _ zsd zsd zsd).b|exact (z1 _ zsd zsd).b|exact (z2 _).b|exact (z4 _ _).b))|exact zsq|fail)
       all_goals exact hL _ (k + 1) (Qe []) (by omega) (by omega) (by rw [hsu];exact Qg [] (by simp only [go_sem,zwl,xJ,fcE,zb]<;>exact zcc) (by simp only [go_sem,zwl,xJ,fcE,Qq,Qy]<;>exact zcc) (by simp [xJ,Qe]) (by simp [xJ]) (by omega))
    ·rw [amf,h3,if_pos (by simp)] at hsu
     repeat' (first|(refine zsk ?_;intro K' hK)|(refine zrg ?_;intro K' hK)|refine zsp ?_|(refine zsc ?_ ?_<;>intro hc<;>first|exact znh|try simp only [znz] at hc)|simp (maxSteps:=1000000) only [go_sem,Ju,e1,hw,hwd,h1,h2,h3,hfk,hek,hm1,hvc,hvi,hf,hg,Int.toNat_natCast,zf,Qa.v,Qa.cells]|(refine hK _ ?_;clear hK K')|apply zan|(apply WU;(focus exact rfl);(focus first|exact (z3 _ _ _ zsd zsd));(focus exact rfl);(focus (first|(simp;done)|omega|(simp only [zb];omega))))|((first|apply QF|apply QC);(focus first|exact p1|exact (z0 _ _ zsd zsd zsd).b|exact (z1 _ zsd zsd).b|exact (z2 _).b|exact (z4 _ _).b))|exact zsq|fail)
     all_goals exact hL _ (k + 1) (Qe []) (by omega) (by omega) (by rw [hsu];exact Qg [] (by simp only [go_sem,zwl,xJ,fcE,zb]<;>exact zcc) (by simp only [go_sem,zwl,xJ,fcE,Qq,Qy]<;>exact zcc) (by simp [xJ,Qe]) (by simp [xJ]) (by omega))
  ·rw [if_pos (by simp at h1 h2;omega)] at hsu
   repeat' (first|(refine zsk ?_;intro K' hK)|(refine zrg ?_;intro K' hK)|refine zsp ?_|(refine zsc ?_ ?_<;>intro hc<;>first|exact znh|try simp only [znz] at hc)|simp (maxSteps:=1000000) only [go_sem,Ju,e1,hw,hwd,h1,h2,hvi,hf,Int.toNat_natCast,zf,Qa.v,Qa.cells]|(refine hK _ ?_;clear hK K')|apply zan|(apply WU;(focus exact rfl);(focus first|exact (z3 _ _ _ zsd zsd));(focus exact rfl);(focus (first|(simp;done)|omega|(simp only [zb];omega))))|((first|apply QF|apply QC);(focus first|exact (z0 _ _ zsd zsd zsd).b|exact (z1 _ zsd zsd).b|exact (z2 _).b|exact (z4 _ _).b))|exact zsq|fail)
   all_goals exact hL _ (k + 1) (Qe []) (by omega) (by omega) (by rw [hsu];exact Qg [] (by simp only [go_sem,zwl,xJ,fcE,zb]<;>exact zcc) (by simp only [go_sem,zwl,xJ,fcE,Qq,Qy]<;>exact zcc) (by simp [xJ,Qe]) (by simp [xJ]) (by omega))
 ·rw [if_pos (by simp at h1;omega)] at hsu
  repeat' (first|(refine zsk ?_;intro K' hK)|(refine zrg ?_;intro K' hK)|refine zsp ?_|(refine zsc ?_ ?_<;>intro hc<;>first|exact znh|try simp only [znz] at hc)|simp (maxSteps:=1000000) only [go_sem,Ju,e1,hw,hwd,h1,hvi,hf,Int.toNat_natCast,zf,Qa.v,Qa.cells]|(refine hK _ ?_;clear hK K')|apply zan|(apply WU;(focus exact rfl);(focus first|exact (z3 _ _ _ zsd zsd));(focus exact rfl);(focus (first|(simp;done)|omega|(simp only [zb];omega))))|((first|apply QF|apply QC);(focus first|exact (z0 _ _ zsd zsd zsd).b|exact (z1 _ zsd zsd).b|exact (z2 _).b|exact (z4 _ _).b))|exact zsq|fail)
  all_goals exact hL _ (k + 1) (Qe []) (by omega) (by omega) (by rw [hsu];exact Qg [] (by simp only [go_sem,zwl,xJ,fcE,zb]<;>exact zcc) (by simp only [go_sem,zwl,xJ,fcE,Qq,Qy]<;>exact zcc) (by simp [xJ,Qe]) (by simp [xJ]) (by omega))
theorem apH {fs:List Nat} {k:Nat} (h:fs.Pairwise (· < ·)) (hk:∀ i∈fs,i < k):(fs++[k]).Pairwise (· < ·):=by
 rw [kV]
 exact ⟨h,List.pairwise_singleton ..,fun a ha b hb=>by rw [zv.1 hb];exact hk a ha⟩
theorem akE {l:List Qa} {p:List Nat} (hp:PW p):∀ k,k≤l.length→∀ e∈YZ l p k,e.finds.Pairwise (· < ·)
 | 0,_,e,he=>by simp [YZ] at he
 | k + 1,hk,e,he=>by
   have ih:=akE (l:=l) hp k (by omega)
   have hI:=yb (l:=l) hp k (by omega)
   rw [YZ,zd (by omega)] at he
   dsimp only at he
   generalize YZ l p k = es at *
   rw [agC] at he
   split at he
   ·rcases zT.1 he with he|he
    ·exact ih e he
    ·rw [zv.1 he];simp [XE,Q1]
   ·rcases hx:agb (Qp p k) (es.map QT.num) 0 with _|a
    ·rw [hx] at he;exact ih e he
    ·rw [hx] at he
     dsimp only at he
     rcases hy:es[a]? with _|y
     ·rw [hy] at he;exact ih e he
     ·rw [hy] at he
      dsimp only at he
      have hm:=zu hy
      rcases ZZ he with he|rfl
      ·exact ih e he
      ·exact apH (ih y hm) (hI.sz y hm).fl
theorem vI {l:List Qa} {gap:Int} {e:QT} (he:e∈Jv l gap):e.finds.Pairwise (· < ·)∧(∀ i∈e.finds,i < l.length)∧e.finds.length≤l.length∧e.hosts.length≤l.length:=by
 have hp:=aag l gap
 have h1:=(yb (l:=l) hp l.length (zj _)).sz e he
 exact ⟨akE hp l.length (zj _) e he,h1.fl,h1.f1,h1.h1⟩
theorem wx (l:List Qa) (gap:Int):(Jv l gap).length≤l.length:=(yb (l:=l) (aag l gap) l.length (zj _)).len
theorem alI {l:List Qa} {gap:Int} (h:J8 l gap = 0):Y1 l = true:=by
 rw [J8] at h
 split at h
 ·assumption
 ·cases h
def fcv (fl:List Qc):V:=.sl 8 (fl.map Qc.v)
def Q9 (l:List Qa) (gap day age:Int):List (List Qc):=(Jv l gap).map fun e=>XR l e.num e.finds day age
def aan (l:List Qa) (gap day age:Int):V:=if JF l gap day age = 0 then .tup [.sl 4 ((Jv l gap).map QT.v),.sl 1 ((Q9 l gap day age).map fcv),V.int 0] else .tup [.sl 4 [],.sl 1 [],V.int (JF l gap day age)]
def obO (xs:List V):Ob:=if xs = [] then .buf true 1 [] else .obuf true 1 xs
theorem am4:obO [] = .buf true 1 []:=rfl
theorem aqV (xs:List V) (x:V):obO (xs++[x]) = .obuf true 1 (xs++[x]):=by rw [obO,if_neg (by simp)]
theorem aqU (x:V):obO [x] = .obuf true 1 [x]:=rfl
theorem aqf:∀ l:List (List Qc),ntL (l.map fcv)
 | []=>trivial
 | x :: r=>⟨by simp [fcv],aqf r⟩
theorem wv:∀ l:List (List Qc),Qd (l.map fcv)
 | []=>trivial
 | x :: r=>⟨by simp only [fcv,V.closed,Qd,and_self],wv r⟩
theorem aq6 (σ:Nat→Nat) (l:List (List Qc)):KC σ (l.map fcv) = l.map fcv:=Q8 _ _ (wv l)
theorem asf (n:Nat) (l:List (List Qc)):ltL n (l.map fcv):=Y9 _ _ (wv l)
theorem akA {o:Nat→Option Ob}:∀ l:List (List Qc),Jq o [] none (l.map fcv) (l.map fcv)
 | []=>trivial
 | x :: r=>⟨by simp [fcv,conv],akA r⟩
theorem aq7 {o:Nat→Option Ob} {n:Nat} {l:List (List Qc)} (h:o n = some (obO (l.map fcv))):conv o [] none (.hd n 0 l.length) (.sl 1 (l.map fcv)):=by
 rw [ajB]
 rcases l with _|⟨x,r⟩
 ·exact ⟨trivial,by simp,.inl ⟨true,_,h,rfl⟩⟩
 ·refine ⟨trivial,by simp,.inr ⟨true,_,h,?_,aqf _,wv _⟩⟩
  rw [kK,zh (by simp)]
  exact akA _
def faS (l:List Qa) (gap day age:Int) (k:Nat):St:=Ju [(0,.sl 11 (l.map Qa.v)),(2,V.int day),(3,V.int age),(11,.sl 4 ((Jv l gap).map QT.v)),(13,.hd 0 0 k),(27,.sl 4 ((Jv l gap).map QT.v)),(28,V.int (Jv l gap).length),(29,V.int k)] [(0,obO (((Q9 l gap day age).take k).map fcv))] 1
def W7:=qd Proofs.Tryz.f29 []
def WE (Γ:Env) (f:Nat):Prop:=∀ (l:List Qa) (gap day age:Int) (hl:l.length≤12) (hz:∀ x∈l,x.Sz),EvC Γ f [.sl 11 (l.map Qa.v),V.int gap,V.int day,V.int age] (aan l gap day age)
attribute [local go_sem] Int.toNat_zero List.getElem?_cons_zero List.length_cons List.length_nil Ju in
theorem abu {Γ:Env} {f:Nat} (h:Has Γ.P f 65 W7.1.1.ac W7.1.2) (z0:WL Γ 57) (z3:jW Γ 58):WE Γ f:=by
 intro l gap day age hl hz
 refine Jy h zsi (by unfold aan;split<;>simp only [V.closed,Qd,and_self]) fun C hC hm=>?_
 subst hC
 simp only [W7,qd,DC.ac]
 have g0:=(z0 l gap (by omega) hz).b
 by_cases hE:J8 l gap = 0
 rotate_left
 ·rw [aan,adC hE,if_neg hE]
  rw [aog,if_neg hE] at g0
  have e01:(J8 l gap != 0) = true:=by simpa using hE
  generalize J8 l gap = er at *
  (have zx:=e01);exact zg
 rw [aog,if_pos hE] at g0
 have hN:=alI hE
 have hok0:=fun e (he:e∈Jv l gap)=>vI he
 have e000:((0:Int) != 0) = false:=by decide
 have e002:((2:Int) != 0) = true:=by decide
 rcases hrg:aiU day age with _|_
 rotate_left
 ·rw [aan,anl hE,if_pos hrg,if_neg (by decide)]
  rcases hes:Jv l gap with _|⟨e,r⟩
  ·rw [hes] at g0
   rw [aiU] at hrg
   have z1:decide (((0:Nat):Int) < ((0:Nat):Int)) = false:=by decide
   have z2:((List.map QT.v []).length:Nat) = 0:=rfl
   simp only [zK] at g0 ⊢
   rcases d1:decide (day < 0) with _|_
   rotate_left
   ·(have zx:=za d1 (za e000 z1));refine zgo ?_;repeat' first|exact zt|apply zan|intro hc
    refine yG ?_
    (have zx:=za d1 (za e000 z1));exact zg
   rcases d2:decide (day > 40000) with _|_
   rotate_left
   ·(have zx:=za d1 (za d2 (za e000 z1)));refine zgo ?_;repeat' first|exact zt|apply zan|intro hc
    refine yG ?_
    (have zx:=za d1 (za d2 (za e000 z1)));exact zg
   rcases d3:decide (age < 0) with _|_
   rotate_left
   ·(have zx:=za d1 (za d2 (za d3 (za e000 z1))));refine zgo ?_;repeat' first|exact zt|apply zan|intro hc
    refine yG ?_
    (have zx:=za d1 (za d2 (za d3 (za e000 z1))));exact zg
   have d4:decide (age > 4000) = true:=by rw [d1,d2,d3] at hrg;exact hrg
   (have zx:=za d1 (za d2 (za d3 (za d4 (za e000 z1)))));refine zgo ?_;repeat' first|exact zt|apply zan|intro hc
   refine yG ?_
   (have zx:=za d1 (za d2 (za d3 (za d4 (za e000 z1)))));exact zg
  ·obtain ⟨o1,o2,o3,o4⟩:=hok0 e (by rw [hes];exact kG)
   have p1:=(z3 l e day age (by omega) hz hN o1 o2 (by omega)).b
   rw [afE,if_pos hrg] at p1
   have hlr:((r.map QT.v).length:Nat) = r.length:=zb _
   have z1:decide ((0:Int) < ((r.length + 1:Nat):Int)) = true:=zo (by omega)
   rw [hes] at g0
   simp only [zL,QT.v] at g0 p1 ⊢
   (have zx:=za e000 (za e002 (za z1 hlr)));refine zgo ?_;repeat' first|exact zt|apply zan|intro hc
   refine yG ?_
   (have zx:=za e000 (za e002 (za z1 hlr)));exact zg
 obtain ⟨hdy,hag⟩:=aiT.1 hrg
 rw [aan,if_pos (ap5 hE hrg)]
 have d1:decide (day < 0) = false:=zp (by omega)
 have d2:decide (day > 40000) = false:=zp (by omega)
 have d3:decide (age < 0) = false:=zp (by omega)
 have d4:decide (age > 4000) = false:=zp (by omega)
 have e00:((0:Int) != 0) = false:=by decide
 have hel:((Jv l gap).map QT.v).length = (Jv l gap).length:=zb _
 have hok:=fun e (he:e∈Jv l gap)=>vI he
 have hen:=wx l gap
 have hfl:(Q9 l gap day age).length = (Jv l gap).length:=zb _
 (have zx:=za e00 hel);refine zgo ?_;repeat' first|exact zt|apply zan|intro hc
 refine Qo (ι:=Nat) (fun k=>k≤(Jv l gap).length) (fun k=>faS l gap day age k) (fun k=>(Jv l gap).length - k) 0 (zH _) (Qe [(0,13000)]) (Qg [(0,13000)] (by simp only [go_sem,zwl,faS,zb]<;>exact zcc) (by simp only [go_sem,zwl,faS,List.take_zero,zK,am4]<;>exact zcc) (by simp [faS,Qe]) (by simp [faS];omega) (by omega)) fun k hk K' hL=>?_
 rcases hdr:(Jv l gap).drop k with _|⟨e,r⟩
 ·have hkl:=Qs hdr
  have e1:decide ((k:Int) < ((Jv l gap).length:Int)) = false:=by simp;omega
  obtain rfl:k = (Jv l gap).length:=by omega
  have htk:(Q9 l gap day age).take (Jv l gap).length = Q9 l gap day age:=zh (by omega)
  simp only [faS,htk]
  (have zx:=za e1 (za d1 (za d2 (za d3 d4))));refine zgo ?_;repeat' first|exact zt|apply zan|intro hc
  all_goals
   refine Qk _ rfl ⟨?_,?_,rfl,trivial⟩
   ·show conv _ _ _ (.sl 4 ((Jv l gap).map QT.v)) (.sl 4 ((Jv l gap).map QT.v))
    simp [conv]
   show conv _ _ _ (.hd 0 0 (Jv l gap).length) _
   rw [← hfl]
   exact aq7 rfl
 obtain ⟨hk',hget,hr⟩:=Ql hdr
 have hw:=Qf (k:=k) (by omega)
 have e1:decide ((k:Int) < ((Jv l gap).length:Int)) = true:=by simp;omega
 obtain ⟨o1,o2,o3,o4⟩:=hok e (zu hget)
 have p1:=(z3 l e day age (by omega) hz hN o1 o2 (by omega)).b
 rw [afE,if_neg (by rw [hrg];decide)] at p1
 have hnx:(Q9 l gap day age).take (k + 1) = (Q9 l gap day age).take k++[XR l e.num e.finds day age]:=by
  rw [zO,Q9,zf,hget];rfl
 have htl:((Q9 l gap day age).take k).length = k:=by rw [zQ];omega
 simp only [faS]
 have vx:((Jv l gap).map QT.v)[k]? = some e.v:=by rw [zf,hget];rfl
 simp only [QT.v] at vx p1
 have hxl:(((Q9 l gap day age).take k).map fcv).length = k:=by rw [zb,htl]
 have htk:List.take k (((Q9 l gap day age).take k).map fcv) = ((Q9 l gap day age).take k).map fcv:=zh (by omega)
 by_cases hk0:k = 0
 ·subst hk0
  simp only [List.take_zero,zK,am4,List.nil_append,kC] at *
  have hw1:IntKind.i64.wrap 1 = 1:=by decide
  (have zx:=za e1 (za hw (za hw1 (za vx e00))));refine zgo ?_;repeat' first|exact zt|apply zan|intro hc
  all_goals exact hL _ 1 (Qe [(0,20001)]) (by omega) (by omega) (Qg [(0,20001)] (by simp only [go_sem,zwl,faS,zb]<;>exact zcc) (by simp only [go_sem,zwl,faS,hnx,zL,zK,aqU,fcv]<;>exact zcc) (by simp [faS,Qe]) (by simp [faS];omega) (by omega))
 ·have hob:obO (((Q9 l gap day age).take k).map fcv) = .obuf true 1 (((Q9 l gap day age).take k).map fcv):=by
   rw [obO,if_neg]
   intro h;rw [h] at hxl;simp at hxl;omega
  rw [hob]
  have hjn:((Q9 l gap day age).take k).map fcv++[.sl 8 ((XR l e.num e.finds day age).map Qc.v)] = ((Q9 l gap day age).take (k + 1)).map fcv:=by
   rw [hnx,km];rfl
  have hob2:obO (((Q9 l gap day age).take (k + 1)).map fcv) = .obuf true 1 (((Q9 l gap day age).take (k + 1)).map fcv):=by
   rw [← hjn,aqV]
  (have zx:=za e1 (za hw (za vx (za e00 (za hxl (za htk hjn))))));refine zgo ?_;repeat' first|exact zt|apply zan|intro hc
  all_goals exact hL _ (k + 1) (Qe [(0,20001)]) (by omega) (by omega) (Qg [(0,20001)] (by simp only [go_sem,zwl,faS,zb]<;>exact zcc) (by simp only [go_sem,zwl,faS,hob2,aq6,asf]<;>exact zcc) (by simp [faS,Qe]) (by simp [faS];omega) (by omega))
structure afQ where
 name:List UInt8
 least:Int
 most:Int
 suites:List Int
 own:Bool
 fall:Bool
def afQ.cells (d:afQ):List V:=[V.str d.name,V.int d.least,V.int d.most,.sl 1 (d.suites.map V.int),V.bool d.own,.sc (.slice none 0 0),.sc (.slice none 0 0),.sc (.slice none 0 0),V.bool d.fall,.sc (.slice none 0 0)]
theorem afQ.cells_closed (d:afQ):Qd d.cells:=by simp [afQ.cells,V.closed,Qd]
theorem adI {α:Type} (p:α→Bool):∀ (xs:List α) (k:Nat),decide (wG p k xs≥0) = xs.any p
 | [],k=>by simp [wG]
 | x :: r,k=>by
   have ih:=adI p r (k + 1)
   rw [wG,List.any_cons]
   by_cases h:p x = true
   ·rw [if_pos h,h];simp
   ·have h2:p x = false:=by simpa using h
    rw [if_neg h,h2,ih];rfl
structure asO where
 sec:List UInt8
 name:List UInt8
 val:List UInt8
 line:Int
def asO.cells (x:asO):List V:=[V.str x.sec,V.str x.name,V.str x.val,V.int x.line]
def asO.v (x:asO):V:=.agg x.cells
end Av
end
