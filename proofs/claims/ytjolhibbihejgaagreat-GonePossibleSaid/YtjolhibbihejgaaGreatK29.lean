/- K29 -/
import Derived.Test.YtjolhibbihejgaaGreatK28
import Derived.Test.YtjolhibbihejgaaGreatK12
import Derived.Test.YtjolhibbihejgaaGreatK20
import Derived.Test.YtjolhibbihejgaaGreatK18
import Derived.Test.YtjolhibbihejgaaGreatK13
import Derived.Test.YtjolhibbihejgaaGreatK27
set_option linter.unusedVariables false
set_option linter.unusedSimpArgs false
noncomputable section
set_option maxRecDepth 10000
set_option maxHeartbeats 4000000
namespace Av
open Go
attribute [local irreducible] AWp UY qH yr awS awC aaT awQ abS Q1 Ub aaE awR Ux awB okR ym ris
theorem ait (l:List Qc) (num:Int) (fs:List Nat) (day age:Int):(V4 l num fs day age).length≤fs.length:=by
 have h:=akf l day age fs fs.length (zm _)
 rw [zN] at h
 rw [V4,qK]
 have:=kN (vH l num) (ahH l day age fs).2
 have:=h.le;have:=h.len
 omega
theorem alc {α β:Type} {g:α→List β} {b:Nat}:∀ (es:List α),(∀ e∈es,(g e).length≤b)→(es.flatMap g).length≤es.length * b
 | [],_=>by simp
 | e :: r,h=>by
   have h1:=alc r fun e he=>h e (kE _ he)
   have h2:=h e kD
   rw [ZP,zn,List.length_cons,zL];omega
theorem akZ {l:List Qc} (h:vG l = true):l.length≤400:=by
 rw [vG,zC,zO] at h;omega
def anw (l:List Qc) (gap day age alg:Int) (xs:List JM) (keys:List Int) (need:Int) (k:Nat):List (Int×Bool):=((Wb l gap).take k).flatMap (evE l day age alg xs keys need)
def anu (l:List Qc) (gap day age alg:Int) (xs:List JM) (keys:List Int) (need:Int) (k:Nat) (e:Jp) (j:Nat):List (Int×Bool):=anw l gap day age alg xs keys need k++((V4 l e.num e.finds day age).take j).filterMap (evF alg day xs keys need e)
theorem anv {l:List Qc} {gap day age alg:Int} {xs:List JM} {keys:List Int} {need:Int} {k:Nat} {e:Jp} (h:(Wb l gap)[k]? = some e):anw l gap day age alg xs keys need (k + 1) = anu l gap day age alg xs keys need k e (V4 l e.num e.finds day age).length:=by
 rw [anu,zN,anw,anw,zJ,h,List.flatMap_append]
 simp [evE]
theorem ans {l:List Qc} {gap day age alg:Int} {xs:List JM} {keys:List Int} {need:Int} {k:Nat} {e:Jp}:anu l gap day age alg xs keys need k e 0 = anw l gap day age alg xs keys need k:=by
 rw [anu];simp
theorem agK (l:List Qc) (gap day age alg:Int) (xs:List JM) (keys:List Int) (need:Int):anw l gap day age alg xs keys need (Wb l gap).length = evL l gap day age alg xs keys need:=by
 rw [anw,zN,evL]
theorem ant {l:List Qc} {gap day age alg:Int} {xs:List JM} {keys:List Int} {need:Int} {k j:Nat} {e:Jp} {f:JF} (h:(V4 l e.num e.finds day age)[j]? = some f):anu l gap day age alg xs keys need k e (j + 1) = anu l gap day age alg xs keys need k e j++(evF alg day xs keys need e f).toList:=by
 rw [anu,anu,zJ,h,ZX,ko]
 congr 2
theorem agJ {l:List Qc} {gap day age alg:Int} {xs:List JM} {keys:List Int} {need:Int} (hl:l.length≤400) {k:Nat}:(anw l gap day age alg xs keys need k).length≤k * 400:=by
 have h:=alc (g:=evE l day age alg xs keys need) (b:=400) ((Wb l gap).take k) fun e he=>by
  obtain ⟨_,_,o3,_⟩:=aoj (List.mem_of_mem_take he)
  have:=ait l e.num e.finds day age
  have:=kN (evF alg day xs keys need e) (V4 l e.num e.finds day age)
  rw [evE];omega
 rw [zV] at h
 have:min k (Wb l gap).length * 400≤k * 400:=zG _ (Nat.min_le_left _ _)
 rw [anw];omega
theorem arh {l:List Qc} {gap day age alg:Int} {xs:List JM} {keys:List Int} {need:Int} (hl:l.length≤400) {k j:Nat} {e:Jp}:(anu l gap day age alg xs keys need k e j).length≤k * 400 + j:=by
 have h1:=agJ (gap:=gap) (day:=day) (age:=age) (alg:=alg) (xs:=xs) (keys:=keys) (need:=need) hl (k:=k)
 have h2:=kN (evF alg day xs keys need e) ((V4 l e.num e.finds day age).take j)
 rw [zV] at h2
 rw [anu,zn];omega
def alS (l:List Qc) (gap:Int) (sc:List V) (out:List (Int×Bool)) (k:Nat):St:=Yh [(1,.ptr 0 0),(5,.hd 1 0 out.length),(24,.sl 4 ((Wb l gap).map Jp.v)),(25,V.int (Wb l gap).length),(26,V.int k)] [(0,.box true sc),(1,.buf true 2 (out.map evV))] 2
def alI (l:List Qc) (gap:Int) (sc:List V) (out:List (Int×Bool)) (k:Nat) (e:Jp) (fs:List JF) (j:Nat):St:=Yh [(1,.ptr 0 0),(5,.hd 1 0 out.length),(7,.ptr 2 0),(24,.sl 4 ((Wb l gap).map Jp.v)),(25,V.int (Wb l gap).length),(26,V.int k),(43,.sl 8 (fs.map JF.v)),(44,V.int fs.length),(45,V.int j)] [(0,.box true sc),(1,.buf true 2 (out.map evV)),(2,.box true (fcE e))] 3
theorem ag2 (f:Nat→Nat) (xs:List (Int×Bool)):jg f (xs.map evV) = xs.map evV:=QL _ _ (by induction xs with|nil=>trivial|cons x r ih=>exact ⟨by simp [evV,V.closed,Qd],ih⟩)
theorem alf (n:Nat) (xs:List (Int×Bool)):ltL n (xs.map evV):=JC _ _ (by induction xs with|nil=>trivial|cons x r ih=>exact ⟨by simp [evV,V.closed,Qd],ih⟩)
def XW:=qd Proofs.Tryz.f51 [⟨fun _=>false,[2,5],.one 0 (.one 1 (.one 3 (.one 4 (.or 2 (.one 5 (.one 6 (.one 7 (.one 8 (.one 9 (.one 10 (.done))))))) (.or 5 (.one 2 (.one 6 (.one 7 (.one 8 (.one 9 (.one 10 (.done))))))) (.done))))))⟩]
def VQ (Γ:Env) (f:Nat):Prop:=∀ (l:List Qc) (gap day age alg:Int) (xs:List JM) (keys:List Int) (need:Int) (hz:∀ x∈l,x.Sz) (hE:Wg l gap = 0) (hrg:apm day age = false) (hxz:∀ x∈xs,x.Sz) (hx:xs.length < 2 ^ 62) (hk:keys.length < 2 ^ 62),EvC Γ f [.agg (srC gap day age alg xs keys need (.sl 11 (l.map Qc.v)))] (.sl 2 ((aqq l gap day age alg xs keys need).map evV))
attribute [local go_sem] List.length_nil Yh in
theorem aam {Γ:Env} {f:Nat} (h:Has Γ.P f 76 XW.1.1.ac XW.1.2) (z1:Xa Γ 44) (z2:yi Γ 83) (z3:wY Γ 84) (z4:Wm Γ 85) (z5:QS Γ 23) (z6:JH Γ 87) (z7:Wl Γ 88):VQ Γ f:=by
 intro l gap day age alg xs keys need hz hE hrg hxz hx hk
 refine Ql h zsi (by simp only [V.closed,Qd,and_self]) fun C hC hm=>?_
 subst hC
 simp only [XW,qd,DC.ac]
 have hN:=agp hE
 have hl:=akZ hN
 have g0:=(z1 l gap (by omega) hz).b
 rw [asr,if_pos hE] at g0
 have hok:=fun e (he:e∈Wb l gap)=>aoj he
 have hen:=alj l gap
 have hel:((Wb l gap).map Jp.v).length = (Wb l gap).length:=zb _
 have hA:=fun (e:Jp) (u:Int×Int) (any:Bool) (hh:e.hosts.length < 2 ^ 62)=>z4 u any gap day age alg xs keys need (.sl 11 (l.map Qc.v)) trivial e.hosts (V.int e.num) (.sl 1 (e.machs.map V.int)) (.sl 1 (Jc e.finds)) hxz hx hk hh
 have hC:=fun (e:Jp) (us:List (Int×Int)) (any:Bool) (hh:e.hosts.length < 2 ^ 62) (hu:us.length < 2 ^ 62)=>(z5 us 85 [.ro (srC gap day age alg xs keys need (.sl 11 (l.map Qc.v))) 0,.ro [V.bool any] 0,.ro [V.int e.num,.sl 1 (e.hosts.map V.str),.sl 1 (e.machs.map V.int),.sl 1 (Jc e.finds)] 0] (fun u=>!xs.any (adu any u e.hosts day keys need)) (fun u _=>hA e u any hh) (by simp [V.closed,Qd,srC]) hu).b
 have hsort:=z6 (evL l gap day age alg xs keys need) 88 (fun x y=>yu x.1 y.1) z7.1 (z7.2 _ rfl) (yy.by Prod.fst) (fun a ha b hb he=>as5 a ha b hb (aex he)) (by rw [← agK];have:=agJ (gap:=gap) (day:=day) (age:=age) (alg:=alg) (xs:=xs) (keys:=keys) (need:=need) hl (k:=(Wb l gap).length);omega)
 have hal:jj (fun x y:Int×Bool=>decide (yu x.1 y.1 < 0)) (evL l gap day age alg xs keys need) = aqq l gap day age alg xs keys need:=rfl
 rw [hal] at hsort
 have hzo:anw l gap day age alg xs keys need 0 = []:=rfl
 have hal2:=aoY l gap day age alg xs keys need
 have hoi:=fun (k:Nat) (e:Jp) (j:Nat)=>arh (gap:=gap) (day:=day) (age:=age) (alg:=alg) (xs:=xs) (keys:=keys) (need:=need) hl (k:=k) (e:=e) (j:=j)
 have hoa:=fun (k:Nat)=>agJ (gap:=gap) (day:=day) (age:=age) (alg:=alg) (xs:=xs) (keys:=keys) (need:=need) hl (k:=k)
 have hsu:=fun (k:Nat) (e:Jp)=>anv (l:=l) (gap:=gap) (day:=day) (age:=age) (alg:=alg) (xs:=xs) (keys:=keys) (need:=need) (k:=k) (e:=e)
 have hsi:=fun (k j:Nat) (e:Jp) (f:JF)=>ant (l:=l) (gap:=gap) (day:=day) (age:=age) (alg:=alg) (xs:=xs) (keys:=keys) (need:=need) (k:=k) (j:=j) (e:=e) (f:=f)
 have hzi:=fun (k:Nat) (e:Jp)=>ans (l:=l) (gap:=gap) (day:=day) (age:=age) (alg:=alg) (xs:=xs) (keys:=keys) (need:=need) (k:=k) (e:=e)
 have hall:=agK l gap day age alg xs keys need
 have hev:∀ e f,evF alg day xs keys need e f = if VG f alg = [] then none else some (f.find,!(VG f alg).any fun u=>!xs.any (adu (yo f alg) u e.hosts day keys need)):=fun _ _=>rfl
 simp only [srC] at *
 generalize anw l gap day age alg xs keys need = oA at *
 generalize anu l gap day age alg xs keys need = oI at *
 generalize evF alg day xs keys need = eF at *
 generalize evL l gap day age alg xs keys need = oL at *
 generalize aqq l gap day age alg xs keys need = oR at *
 (have zx:=hel);refine zgo ?_;repeat' first|exact zt|apply zan|intro hc
 refine Qs (ι:=Nat) (fun k=>k≤(Wb l gap).length) (fun k=>alS l gap (srC gap day age alg xs keys need (.sl 11 (l.map Qc.v))) (oA k) k) (fun k=>(Wb l gap).length - k) 0 (zA _) (Qf [(1,13000)]) (Qo [(1,13000)] (by simp only [go_sem,zwl,alS,hzo,hel,List.length_nil]<;>exact zcc) (by simp only [go_sem,zwl,alS,hzo,srC,zw]<;>exact zcc) (by simp [alS,Qf]) (by simp [alS];omega) (by omega)) fun k hk K' hL=>?_
 rcases hdr:(Wb l gap).drop k with _|⟨e,r⟩
 ·have hkl:=Qr hdr
  have e1:decide ((k:Int) < ((Wb l gap).length:Int)) = false:=by simp;omega
  obtain rfl:k = (Wb l gap).length:=by omega
  clear hL hC hA
  rw [hall]
  simp only [alS,srC]
  have htk:List.take oL.length (oR.map evV) = oR.map evV:=zi (by simp;omega)
  (have zx:=za e1 htk);refine zgo ?_;repeat' first|exact zt|apply zan|intro hc
  all_goals first|(refine Qi _ rfl ?_;simp only [go_sem];rw [htk];done)|(refine Qi _ rfl ?_;simp only [go_sem,htk];done)|exact zr
 obtain ⟨hk',hget,hr⟩:=Qk hdr
 have hw:=Qg (k:=k) (by omega)
 have e1:decide ((k:Int) < ((Wb l gap).length:Int)) = true:=by simp;omega
 obtain ⟨o1,o2,o3,o4⟩:=hok e (zq hget)
 have p1:=(z2 l e day age (by omega) hz hN o1 o2 (by omega)).b
 rw [aiu,if_neg (by rw [hrg];decide)] at p1
 have hfl:=ait l e.num e.finds day age
 have hsu1:=hsu k e hget
 have hzi1:=hzi k e
 have hsi1:=fun (j:Nat) (f:JF)=>hsi k j e f
 have hoi1:=hoi k e
 clear hsi hsu hzi hoi
 simp only [alS,srC]
 have vx:((Wb l gap).map Jp.v)[k]? = some e.v:=by rw [zk,hget];rfl
 simp only [Jp.v] at vx p1
 generalize V4 l e.num e.finds day age = fs at *
 have hfm:(fs.map JF.v).length = fs.length:=zb _
 rw [← hzi1]
 (have zx:=za e1 (za hw (za vx hfm)));refine zgo ?_;repeat' first|exact zt|apply zan|intro hc
 refine Qs (ι:=Nat) (fun j=>j≤fs.length) (fun j=>alI l gap (srC gap day age alg xs keys need (.sl 11 (l.map Qc.v))) (oI k e j) k e fs j) (fun j=>fs.length - j) 0 (zA _) (Qf [(2,3002)]) (Qo [(2,3002)] (by simp only [go_sem,zwl,alI,hel,hfm]<;>exact zcc) (by simp only [go_sem,zwl,alI,srC,fcE,QP,Jj,ag2,alf]<;>exact zcc) (by simp [alI,Qf]) (by simp [alI];omega) (by omega)) fun j hj K2 hM=>?_
 rcases hds:fs.drop j with _|⟨f0,r2⟩
 ·have hjl:=Qr hds
  have f1:decide ((j:Int) < (fs.length:Int)) = false:=by simp;omega
  obtain rfl:j = fs.length:=by omega
  clear hM
  have hnn:=fun s'=>hL s' (k + 1) (Qf []) (by omega) (by omega)
  simp only [alI,srC]
  simp only [hsu1,alS,srC] at hnn
  generalize oI k e fs.length = out at *
  (have zx:=za f1 hw);refine zgo ?_;repeat' first|exact zt|apply zan|intro hc
  all_goals exact hnn _ (Qo [] zwa (by simp only [go_sem,zwl,ag2,alf]<;>exact zcc) (by simp [Qf]) (by simp) (by omega))
 obtain ⟨hj',hgf,hrf⟩:=Qk hds
 have hwj:=Qg (k:=j) (by omega)
 have f1:decide ((j:Int) < (fs.length:Int)) = true:=by simp;omega
 have vf:(fs.map JF.v)[j]? = some f0.v:=by rw [zk,hgf];rfl
 have gU:=(z3 f0 alg).b
 have hnn:=fun s'=>hM s' (j + 1)
 have hs1:=hsi1 j f0 hgf
 have hol:=hoi1 j
 clear hL hM hoi1 hsi1
 rw [hev] at hs1
 rw [afr] at gU
 have hum:((VG f0 alg).map QK).length = (VG f0 alg).length:=zb _
 have hul:(VG f0 alg).length≤4:=by
  rw [VG]
  (repeat' split)<;>first|simp|(refine Zs (ZV _ _) ?_;simp [suU])
 simp only [alI,srC,fcE,JF.v,JF.cells] at vf gU ⊢
 by_cases hu:VG f0 alg = []
 ·rw [if_pos hu,Option.toList_none,zW] at hs1
  rw [hu] at gU
  simp only [hs1,zw] at hnn gU
  generalize oI k e j = out at *
  have z0:(((0:Nat):Int) == 0) = true:=rfl
  (have zx:=za f1 (za hwj (za vf z0)));refine zgo ?_;repeat' first|exact zt|apply zan|intro hc
  all_goals exact hnn _ (Qf []) (by omega) (by omega) (Qo [] (by simp only [go_sem,zwl,alI,hel,hfm]<;>exact zcc) (by simp only [go_sem,zwl,alI,srC,fcE,QP,Jj,ag2,alf]<;>exact zcc) (by simp [alI,Qf]) (by simp [alI]) (by omega))
 rw [if_neg hu,Option.toList_some] at hs1
 have z0:(((VG f0 alg).length:Int) == 0) = false:=by
  have:(VG f0 alg).length≠0:=fun h=>hu (ky.1 h)
  simpa using this
 have hCC:=hC e (VG f0 alg) (yo f0 alg) (by omega) (by omega)
 generalize (VG f0 alg).any (fun u=>!xs.any (adu (yo f0 alg) u e.hosts day keys need)) = cv at *
 generalize VG f0 alg = us at *
 generalize yo f0 alg = ub at *
 simp only [hs1] at hnn
 generalize oI k e j = out at *
 have hto:List.take out.length (out.map evV) = out.map evV:=zi (by simp)
 have hom:(out.map evV).length = out.length:=zb _
 have q1:(out.length + 1) * 2≤2 ^ 40:=by omega
 have q2:out.length + 1≤2 ^ 40:=by omega
 clear hsort hall hA hC
 (have zx:=za f1 (za hwj (za vf (za z0 (za hum (za hto (za hom (za q1 q2))))))));refine zgo ?_;repeat' first|exact zt|apply zan|intro hc
 all_goals exact hnn _ (Qf [(1,30003)]) (by omega) (by omega) (Qo [(1,30003)] (by simp only [go_sem,zwl,alI,hel,hfm,zn,List.length_singleton]<;>exact zcc) (by simp only [go_sem,zwl,alI,srC,fcE,QP,Jj,ag2,alf,kc,zy,zw,evV]<;>exact zcc) (by simp [alI,Qf]) (by simp [alI];omega) (by omega))
theorem att {l:List Qc} {gap age alg:Int} {xs:List JM} {days:List Int} (h:ahI l gap age alg xs days = 0):Wg l gap = 0∧∀ d∈days,apm d age = false:=by
 rw [ahI] at h
 split at h
 ·contradiction
 ·rename_i h1
  split at h
  ·cases h
  ·rename_i h2
   refine ⟨by simpa using h1,fun d hd=>ajz.2 ?_⟩
   have h2:=ZD.2 h2
   rw [kp,kp,zB,zB,ZR] at h2
   obtain ⟨h3,h4,h5⟩:=h2
   have h6:=ZD.2 (h5 d hd)
   rw [wA,kp,zB,zB] at h6
   omega
theorem aoX {l:List Qc} {gap day age alg:Int} {xs:List JM} {keys:List Int} {need:Int} (hE:Wg l gap = 0):(aqq l gap day age alg xs keys need).length≤160000:=by
 have hl:=akZ (agp hE)
 have:=agJ (gap:=gap) (day:=day) (age:=age) (alg:=alg) (xs:=xs) (keys:=keys) (need:=need) hl (k:=(Wb l gap).length)
 have hen:=alj l gap
 rw [aoY,← agK]
 have:(Wb l gap).length * 400≤400 * 400:=zG _ (by omega)
 omega
def Xw:=qd Proofs.Tryz.f28 []
def Vf (Γ:Env) (f:Nat):Prop:=∀ (l:List Qc) (gap day age alg:Int) (xs:List JM) (keys:List Int) (need:Int) (hz:∀ x∈l,x.Sz) (hE:Wg l gap = 0) (hrg:apm day age = false) (hxz:∀ x∈xs,x.Sz) (hx:xs.length < 2 ^ 62) (hk:keys.length < 2 ^ 62),EvN Γ f [.agg (srC gap day age alg xs keys need (.sl 11 (l.map Qc.v)))] (V.bool (ajW l gap day age alg xs keys need))
theorem vK {Γ:Env} {f:Nat} (h:Has Γ.P f 7 Xw.1.1.ac Xw.1.2) (z0:VQ Γ 51) (z1:QO Γ 50) (z2:XQ Γ 52):Vf Γ f:=by
 intro l gap day age alg xs keys need hz hE hrg hxz hx hk
 refine Qa h zsi zcl zcl fun C hC hm=>?_
 subst hC
 simp only [Xw,qd,DC.ac]
 have gA:=(z0 l gap day age alg xs keys need hz hE hrg hxz hx hk).b
 have gC:=(z1 (aqq l gap day age alg xs keys need) 52 [] (fun e=>!e.2) (fun x _=>z2 x) trivial (by have:=aoX (day:=day) (age:=age) (alg:=alg) (xs:=xs) (keys:=keys) (need:=need) hE;omega)).b
 rw [ajW]
 simp only [srC] at *
 exact zg
def arG (l:List Qc) (gap day age alg:Int) (xs:List JM) (keys:List Int) (need:Int):V:=if ahI l gap age alg xs [day]≠0 then .tup [V.bool false,V.int (ahI l gap age alg xs [day])] else .tup [V.bool (ajW l gap day age alg xs keys need),V.int 0]
def xu:=qd Proofs.Tryz.f12 []
def jN (Γ:Env) (f:Nat):Prop:=∀ (l:List Qc) (gap day age alg:Int) (xs:List JM) (keys:List Int) (need:Int) (hl:l.length < 2 ^ 40) (hz:∀ x∈l,x.Sz) (hxz:∀ x∈xs,x.Sz) (hx:xs.length < 2 ^ 62) (hk:keys.length < 2 ^ 62),EvN Γ f [.sl 11 (l.map Qc.v),V.int gap,V.int day,V.int age,V.int alg,.sl 7 (xs.map JM.v),.agg [.sl 1 (keys.map V.int),V.int need]] (arG l gap day age alg xs keys need)
theorem aiF {Γ:Env} {f:Nat} (h:Has Γ.P f 37 xu.1.1.ac xu.1.2) (z0:Wk Γ 27) (z1:Vf Γ 28):jN Γ f:=by
 intro l gap day age alg xs keys need hl hz hxz hx hk
 refine Qa h zsi (by unfold arG;split<;>simp only [V.closed,Qd,V.noSl,adw,and_self]) (by unfold arG;split<;>simp only [V.closed,Qd,V.noSl,adw,and_self]) fun C hC hm=>?_
 subst hC
 simp only [xu,qd,DC.ac]
 have gK:=(z0 l gap day age alg xs keys need [day] hl hz hx hxz (by simp)).b
 rw [arG]
 by_cases hq:ahI l gap age alg xs [day] = 0
 ·obtain ⟨hE,hd⟩:=att hq
  have gG:=(z1 l gap day age alg xs keys need hz hE (hd day kD) hxz hx hk).b
  rw [hq] at gK
  rw [if_neg (by simpa using hq)]
  have e0:((0:Int) != 0) = false:=rfl
  simp only [srC,zy,zw] at *
  (have zx:=e0);exact zg
 ·rw [if_pos hq]
  have e0:(ahI l gap age alg xs [day] != 0) = true:=by simpa using hq
  generalize ahI l gap age alg xs [day] = er at *
  simp only [srC,zy,zw] at *
  (have zx:=e0);exact zg
end Av
end
