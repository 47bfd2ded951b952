/- K31 -/
import Derived.Test.YtjolhibbihejgaaGreatK30
import Derived.Test.YtjolhibbihejgaaGreatK12
import Derived.Test.YtjolhibbihejgaaGreatK28
import Derived.Test.YtjolhibbihejgaaGreatK21
import Derived.Test.YtjolhibbihejgaaGreatK22
import Derived.Test.YtjolhibbihejgaaGreatK16
import Derived.Test.YtjolhibbihejgaaGreatK14
set_option linter.unusedVariables false
set_option linter.unusedSimpArgs false
noncomputable section
set_option maxRecDepth 10000
set_option maxHeartbeats 4000000
namespace Av
open Go
attribute [local irreducible] AWp UY qH yr awS awC aaT awQ abS Q1 Ub aaE awR Ux awB okR ym ris
theorem anK {α:Type} {p:α→Bool} {q:α→α→Bool} (tr:∀ a b c,q a b = true→q b c = true→q a c = true) (l:List α):∀ k,k≤l.length→(okP p q l k = true↔(∀ x∈l.take k,p x = true)∧(l.take k).Pairwise fun a b=>q a b = true)
 | 0,_=>by simp [akV]
 | k + 1,h=>by
   obtain ⟨x,hx⟩:∃ x,l[k]? = some x:=⟨_,zd (by omega)⟩
   rw [vi,hx,zJ,hx,Option.toList_some,kP]
   dsimp only
   rw [zC,anK tr l k (by omega),zC,kH]
   constructor
   ·rintro ⟨⟨h1,h2⟩,h3,h4⟩
    refine ⟨fun y hy=>(zU.1 hy).elim (h1 y) (fun e=>by rw [zu.1 e];exact h3),h2,k9 _ _,fun y hy z hz=>?_⟩
    rw [zu.1 hz]
    rcases k with _|j
    ·simp at hy
    ·obtain ⟨u,hu⟩:∃ u,l[j]? = some u:=⟨_,zd (by omega)⟩
     rw [show j + 1 - 1 = j from rfl,hu] at h4
     have h4:q u x = true:=by rcases h4 with h4|h4;simp at h4;exact h4
     rw [zJ,hu,Option.toList_some,kP] at h2
     rw [zJ,hu,Option.toList_some] at hy
     rcases zU.1 hy with hy|hy
     ·exact tr y u x (h2.2.2 y hy u (zu.2 rfl)) h4
     ·rw [zu.1 hy];exact h4
   ·rintro ⟨h1,h2,_,h3⟩
    refine ⟨⟨fun y hy=>h1 y (List.mem_append_left _ hy),h2⟩,h1 x (ZY _ (zu.2 rfl)),?_⟩
    rcases k with _|j
    ·exact .inl rfl
    ·obtain ⟨u,hu⟩:∃ u,l[j]? = some u:=⟨_,zd (by omega)⟩
     rw [show j + 1 - 1 = j from rfl,hu]
     exact .inr (h3 u (by rw [zJ,hu];exact ZY _ (zu.2 rfl)) x (zu.2 rfl))
theorem aoB:Cm anx:=by
 have h0:Cm fun _ _:Qc=>(0:Int):=⟨fun _ _=>rfl,fun _ _ _ _ _=>Int.le_refl _,fun _ _ _ _ _ _=>rfl⟩
 exact (aiU.by Qc.host).lex ((yy.by Qc.mach).lex ((yy.by Qc.day).lex ((aiU.by Qc.subj).lex ((yy.by Qc.kind).lex ((yy.by Qc.alg).lex ((yy.by Qc.bits).lex ((yy.by Qc.num).lex ((aiU.by Qc.text).lex ((yy.by Qc.src).lex ((yy.by Qc.conf).lex h0))))))))))
theorem asW (a b c:Qc) (h1:ltF a b = true) (h2:ltF b c = true):ltF a c = true:=by
 simp only [ltF,zO] at *
 have t:=aoB.tr a b c (by omega) (by omega)
 have z:=aoB.ze a b c (by omega) (by omega)
 omega
theorem anN (l:List Qc):anO l = true↔(∀ x∈l,KJ x = true)∧l.Pairwise fun a b=>ltF a b = true:=by
 rw [anO,anK asW l _ (zm _),zN]
theorem aqW:Qv 1 0 > 0∧Qv 14 128 > 0∧Qv 5 1024 > 0∧Qv 20 0 > 0∧Qv 10 2048 > 0:=by decide +kernel
def atF (kind day alg bits:Int):Qc:=⟨3,[97,112,112],1,day,90,kind,[116,108,115],alg,bits,0,[]⟩
def vX (day od alg bits:Int):List Qc:=[atF 1 day alg bits,atF 8 od alg bits]
theorem apd (day od alg bits gap:Int):aig (vX day od alg bits) gap = (List.range 400).set 1 0:=by
 have h1:ao4 1 [] 0 = none:=rfl
 have h2:ao4 1 [1] 0 = some 0:=rfl
 have r1:Xs (List.range 400) 1 = 1:=by decide +kernel
 have r0:Xs (List.range 400) 0 = 0:=by decide +kernel
 have g0:(vX day od alg bits)[0]? = some (atF 1 day alg bits):=rfl
 have g1:(vX day od alg bits)[1]? = some (atF 8 od alg bits):=rfl
 have m1:∀ k d,(atF k d alg bits).mach = 1:=fun _ _=>rfl
 have hl:(vX day od alg bits).length = 2:=rfl
 rw [aig,hl,KH,g1,KH,g0,KH]
 simp only [ajP,m1,h1,List.nil_append]
 simp [h2,ajR,r1,r0]
theorem ape (day od alg bits gap:Int):Wb (vX day od alg bits) gap = [⟨0,[[97,112,112]],[1],[0,1]⟩]:=by
 have g0:(vX day od alg bits)[0]? = some (atF 1 day alg bits):=rfl
 have g1:(vX day od alg bits)[1]? = some (atF 8 od alg bits):=rfl
 have hl:(vX day od alg bits).length = 2:=rfl
 have r1:Xs ((List.range 400).set 1 0) 1 = 0:=by decide +kernel
 have r0:Xs ((List.range 400).set 1 0) 0 = 0:=by decide +kernel
 have i1:acs Op.bytesLess [] [97,112,112] = [[97,112,112]]:=by decide +kernel
 have i2:acs Op.bytesLess [[97,112,112]] [97,112,112] = [[97,112,112]]:=by decide +kernel
 have j1:acs ltJ [] 1 = [1]:=by decide +kernel
 have j2:acs ltJ [1] 1 = [1]:=by decide +kernel
 have hx:afw 0 [0] 0 = some 0:=rfl
 have hh:∀ k d,(atF k d alg bits).host = [97,112,112]:=fun _ _=>rfl
 have m1:∀ k d,(atF k d alg bits).mach = 1:=fun _ _=>rfl
 rw [Wb,apd,hl,J8,g1,J8,g0,J8]
 simp only [afK,r0,r1,YW,QX,hh,m1,i1,j1,List.nil_append]
 simp [hx,i2,j2,YW,QX,hh,m1]
theorem am3 {day od alg bits gap:Int} (h0:0≤day) (h1:day < od) (h2:od≤40000) (hg:0≤gap∧gap≤4000) (hs:Qv alg bits > 0):Wg (vX day od alg bits) gap = 0:=by
 have na:Qw [97,112,112] = true:=by decide +kernel
 have nt:Qw [116,108,115] = true:=by decide +kernel
 have hc:∀ k d,(k = 1∨k = 8)→0≤d→d≤40000→KJ (atF k d alg bits) = true:=by
  intro k d hk d0 d1
  have hb:vA (atF k d alg bits) = true:=by
   have e1:(atF k d alg bits).kind = k:=rfl
   have e2:(atF k d alg bits).alg = alg:=rfl
   have e3:(atF k d alg bits).bits = bits:=rfl
   rw [vA,e1,if_pos hk,e2,e3,zv hs];rfl
  rw [KJ,hb]
  simp only [atF,na,nt]
  simp
  exact ⟨d0,zv d1⟩
 have hlt:ltF (atF 1 day alg bits) (atF 8 od alg bits) = true:=by
  have s0:ack [97,112,112] [97,112,112] = 0:=by decide +kernel
  have i1:yu (1:Int) 1 = 0:=by decide
  have i2:yu day od = -1:=by rw [yu,if_pos h1]
  rw [ltF,anx,asp]
  simp only [atF,s0,i1,i2,U1]
  simp
 have hn:vG (vX day od alg bits) = true:=by
  rw [vG,zC,anN,zO]
  refine ⟨⟨fun x hx=>?_,?_⟩,by simp [vX]⟩
  ·simp only [vX,zo,zl,or_false] at hx
   rcases hx with rfl|rfl
   ·exact hc 1 day (.inl rfl) h0 (by omega)
   ·exact hc 8 od (.inr rfl) (by omega) h2
  ·simp only [vX,Zt,zu,forall_eq,hlt,true_and]
   simp
 rw [Wg,if_pos hn,if_neg (by omega)]
theorem am2 {day od alg bits D age:Int} (h1:day < od) (hd:day≤D) (ha:D - age≤day) (ho:D≤od):V4 (vX day od alg bits) 0 [0,1] D age = if D < od then [yw 0 0 (atF 1 day alg bits)] else []:=by
 have g0:(vX day od alg bits)[0]? = some (atF 1 day alg bits):=rfl
 have g1:(vX day od alg bits)[1]? = some (atF 8 od alg bits):=rfl
 have p8:Xe (atF 8 od alg bits) = Xe (atF 1 day alg bits):=by simp [Xe,atF]
 have d1:∀ k d,(atF k d alg bits).day = d:=fun _ _=>rfl
 have hx:∀ p:PPl,ak4 p [] 0 = none:=fun _=>rfl
 have hx1:∀ p:PPl,ak4 p [p] 0 = some 0:=fun p=>by simp [ak4]
 have hb:asa (atF 8 od alg bits) (atF 1 day alg bits) = true:=by rw [asa,d1,d1,zv (by omega)];rfl
 have k1:(atF 1 day alg bits).kind = 1:=rfl
 have k8:(atF 8 od alg bits).kind = 8:=rfl
 rw [V4,ahH,List.foldl_cons,List.foldl_cons,List.foldl_nil]
 have s0:alp (vX day od alg bits) D age ([],[]) 0 = ([Xe (atF 1 day alg bits)],[0]):=by
  rw [alp,g0]
  simp only [d1]
  rw [if_neg (by omega),hx];rfl
 rw [s0]
 by_cases h:D < od
 ·have s1:alp (vX day od alg bits) D age ([Xe (atF 1 day alg bits)],[0]) 1 = ([Xe (atF 1 day alg bits)],[0]):=by
   rw [alp,g1]
   simp only [d1]
   rw [if_pos (by omega)]
  rw [s1,if_pos h]
  simp only [List.filterMap_cons,List.filterMap_nil,vH,g0,k1]
  exact aip _ _
 ·have s1:alp (vX day od alg bits) D age ([Xe (atF 1 day alg bits)],[0]) 1 = ([Xe (atF 1 day alg bits)],[1]):=by
   rw [alp,g1]
   simp only [d1,p8]
   rw [if_neg (by omega),hx1]
   simp [g0,hb]
  rw [s1,if_neg h]
  simp only [List.filterMap_cons,List.filterMap_nil,vH,g1,k8]
  rfl
theorem asv {day od alg bits D age gap:Int} (h1:day < od) (hd:day≤D) (ha:D - age≤day) (ho:D≤od) (hal:1≤alg∧alg≤22) (xs:List JM) (keys:List Int) (need:Int):aqq (vX day od alg bits) gap D age alg xs keys need = if D < od then [(0,xs.any (adu false (alg,bits) [[97,112,112]] D keys need))] else []:=by
 rw [aqq,evL,ape,ZP,List.flatMap_nil,zW,evE]
 have hf:=am2 (alg:=alg) (bits:=bits) h1 hd ha ho
 have hn:(((0:Nat):Int)) = 0:=rfl
 simp only [hn]
 rw [hf]
 by_cases h:D < od
 ·rw [if_pos h,if_pos h,List.filterMap_cons,List.filterMap_nil]
  have u1:VG (yw 0 0 (atF 1 day alg bits)) alg = [(alg,bits)]:=by
   simp [VG,yw,atF];omega
  have u2:yo (yw 0 0 (atF 1 day alg bits)) alg = false:=by
   simp [yo,yw,atF]
  have u3:(yw 0 0 (atF 1 day alg bits)).find = 0:=rfl
  have he:evF alg D xs keys need ⟨0,[[97,112,112]],[1],[0,1]⟩ (yw 0 0 (atF 1 day alg bits)) = some (0,xs.any (adu false (alg,bits) [[97,112,112]] D keys need)):=by
   rw [evF,u1,u2,u3,if_neg (by simp)]
   simp
  rw [he]
  exact aip _ _
 ·rw [if_neg h,if_neg h];rfl
end Av
end
