/- K15 -/
import Derived.Test.YtjobognfgjobfaaGreatDoorK14
import Derived.Lib.ItoaLen
import Derived.Lib.IndexMore
import Derived.Lib.AtoiAll
import Derived.Test.YtjobognfgjobfaaGreatDoorK12
import Derived.Test.YtjobognfgjobfaaGreatDoorK13
set_option linter.unusedVariables false
set_option linter.unusedSimpArgs false
noncomputable section
set_option maxRecDepth 10000
set_option maxHeartbeats 4000000
namespace Av
open Go
attribute [local irreducible] AWp WC wb aai awS awC aeM awQ afz Jk qV aes awR jj awB okR aaf ris
def yo (s:List UInt8):Int:=match Lib.atoiAll s with|.ok v=>v|.range=>Lib.atoiSat s|_=>0
def aqF (s:List UInt8):V:=match Lib.atoiAll s with|.ok _=>.sc .nilIface|_=>.nn
def acC (Γ:Env) (f:Nat):Prop:=∀ (s sep:List UInt8) (hs:s.length < 4294967281),EvN Γ f [V.str s,V.str sep] (.tup [V.str (Lib.cut s sep).1,V.str (Lib.cut s sep).2.1,V.bool (Lib.cut s sep).2.2])
def xR (Γ:Env) (f:Nat):Prop:=∀ (s:List UInt8) (hs:s.length < 4294967281),EvN Γ f [V.str s] (.tup [V.int (yo s),aqF s])
def abI (Γ:Env) (f:Nat):Prop:=∀ (n:Int) (h0:-9223372036854775808≤n) (h1:n≤9223372036854775807),EvN Γ f [V.int n] (V.str (Lib.itoa n))
def KU:=qd Proofs.Tryz.f118 []
def XE (Γ:Env) (f:Nat):Prop:=∀ (a b:Int),EvN Γ f [.agg [V.int a,V.int b]] (V.bool (decide (Qx a b > 0)))
theorem agO {Γ:Env} {f:Nat} (h:Has Γ.P f 6 KU.1.1.ac KU.1.2) (z0:Xo Γ 192):XE Γ f:=by
 intro a b
 refine Qc h zsi zcl zcl fun C hC hm=>?_
 subst hC
 simp only [KU,qd,DC.ac]
 refine zgo ?_;repeat' first|exact zt|apply zan|intro hc
 refine Qg _ rfl ?_;simp only [go_sem]
theorem al5 (x:Int):∀ (l:List Int) (k:Nat),0≤VB x k l→x∈l
 | [],k,h=>by simp [VB] at h
 | y :: r,k,h=>by
   unfold VB at h
   split at h
   ·rename_i e;simp [e]
   ·exact kp _ (al5 x r (k + 1) h)
def qS (name:List UInt8):Nat→List agl→Int
 | _,[]=>0
 | k,r :: rs=>if 0 < k∧r.name = name then k else qS name (k + 1) rs
theorem aq5 (k:Nat) (h:k < 23) {r:agl} (hr:Y3[k]? = some r):(aj8.drop (k * 5)).take 5 = r.v:=by
 have hk:k < Y3.length:=h
 rw [aj8,ae8 (f:=agl.v) (n:=5) (fun _=>rfl) Y3 k hk]
 rw [zd hk] at hr
 cases hr;rfl
def jZ:=qd Proofs.Tryz.f184 []
def qO (Γ:Env) (f:Nat):Prop:=∀ (s:List UInt8),EvN Γ f [V.str s] (V.int (qS s 0 Y3))
attribute [local go_sem] agl.v alh in
theorem aid {Γ:Env} {f:Nat} (h:Has Γ.P f 20 jZ.1.1.ac jZ.1.2) (z0:qM Γ 242):qO Γ f:=by
 intro s
 refine Qc h zsi zcl zcl fun C hC hm=>?_
 subst hC
 simp only [jZ,qd,DC.ac]
 refine zgo ?_;repeat' first|exact zt|apply zan|intro hc
 refine Ji (ι:=Nat) (fun k=>k≤23∧qS s k (Y3.drop k) = qS s 0 Y3) (fun k=>[(6,V.int k)]) (fun k=>23 - k) 0 (by omega) ⟨by simp,by simp⟩ zol (fun i hi=>by simp only [ovT,Xs,Nat.reduceEqDiff,reduceIte];(repeat' first|exact ae0|refine abY ?_ ?_|simp only [V.lt,ltL,and_self,and_true]|omega);exact YG _ _ aiq) zet fun k hk K' hL=>?_
 obtain ⟨hk,hinv⟩:=hk
 simp only [ovT,Xs,Nat.reduceEqDiff,reduceIte]
 rcases hd:Y3.drop k with _|⟨r,rs⟩
 ·have hk':=Qu hd
  have hl:Y3.length = 23:=rfl
  rw [hd] at hinv
  refine zgo ?_;repeat' first|exact zt|apply zan|intro hc
  refine Qg _ rfl ?_;simp only [go_sem]
  rw [← hinv];rfl
 ·obtain ⟨hk',hget,hr⟩:=Qq hd
  have hl:Y3.length = 23:=rfl
  rw [hd] at hinv
  have hw:=Qe (k:=k) (by omega)
  have hrow:=aq5 k (by omega) hget
  (have zx:=za hrow hw);refine zgo ?_;repeat' first|exact zt|apply zan|intro hc
  all_goals first
   | (refine Qg _ rfl ?_;simp only [go_sem];rw [← hinv];simp [qS,hc];omega)
   | (refine hL _ (k + 1) zet ⟨by omega,?_⟩ (by omega) zoe;rw [hr,← hinv,qS,if_neg (by first|omega|simp [hc])])
def xe:=qd Proofs.Tryz.f231 []
def vH (Γ:Env) (f:Nat):Prop:=∀ (a b:Int),EvN Γ f [V.int a,V.int b] (.agg [V.int a,V.int b])
theorem aiZ {Γ:Env} {f:Nat} (h:Has Γ.P f 8 xe.1.1.ac xe.1.2) :vH Γ f:=by
 intro a b
 refine Qc h zsi zcl zcl fun C hC hm=>?_
 subst hC
 simp only [xe,qd,DC.ac]
 refine zgo ?_;repeat' first|exact zt|apply zan|intro hc
 refine Qg _ rfl ?_;simp only [go_sem]
structure QC where
 code:Int
 name:List UInt8
 kx1:Int
 kx2:Int
 sg1:Int
 sg2:Int
 ci1:Int
 ci2:Int
 mc1:Int
 mc2:Int
 lo:Int
 hi:Int
 deriving DecidableEq
def QC.cells (s:QC):List V:=[V.int s.code,V.str s.name,V.int s.kx1,V.int s.kx2,V.int s.sg1,V.int s.sg2,V.int s.ci1,V.int s.ci2,V.int s.mc1,V.int s.mc2,V.int s.lo,V.int s.hi]
def QC.v (s:QC):V:=.agg s.cells
def Jd:List QC:=[⟨1,[114,115,97,45,114,99,52,45,109,100,53],10,0,5,0,14,128,19,0,1,2⟩,⟨2,[114,115,97,45,114,99,52,45,115,104,97],10,0,5,0,14,128,20,0,1,3⟩,⟨3,[114,115,97,45,100,101,115,51,45,115,104,97],10,0,5,0,15,168,20,0,1,3⟩,⟨4,[100,104,101,45,100,115,97,45,100,101,115,51,45,115,104,97],11,1024,6,0,15,168,20,0,1,3⟩,⟨5,[100,104,101,45,114,115,97,45,100,101,115,51,45,115,104,97],11,1024,5,0,15,168,20,0,1,3⟩,⟨6,[114,115,97,45,97,101,115,49,50,56,45,115,104,97],10,0,5,0,16,128,20,0,1,3⟩,⟨7,[100,104,101,45,114,115,97,45,97,101,115,49,50,56,45,115,104,97],11,2048,5,0,16,128,20,0,1,3⟩,⟨8,[101,99,100,104,101,45,114,115,97,45,97,101,115,49,50,56,45,115,104,97],12,256,5,0,16,128,20,0,1,3⟩,⟨9,[101,99,100,104,101,45,101,99,100,115,97,45,97,101,115,50,53,54,45,115,104,97,50,53,54],12,256,7,0,16,256,21,0,3,3⟩,⟨10,[101,99,100,104,101,45,114,115,97,45,97,101,115,49,50,56,45,103,99,109],12,256,5,0,17,128,22,0,3,3⟩,⟨11,[101,99,100,104,101,45,101,99,100,115,97,45,97,101,115,50,53,54,45,103,99,109],12,384,7,0,17,256,22,0,3,3⟩,⟨12,[101,99,100,104,101,45,114,115,97,45,99,104,97,99,104,97],12,256,5,0,18,0,22,0,3,3⟩,⟨13,[114,115,97,45,97,101,115,50,53,54,45,103,99,109],10,0,5,0,17,256,22,0,3,3⟩,⟨14,[97,101,115,49,50,56,45,103,99,109],12,256,0,0,17,128,22,0,4,4⟩,⟨15,[99,104,97,99,104,97],12,256,0,0,18,0,22,0,4,4⟩,⟨16,[109,108,107,101,109,45,97,101,115,50,53,54,45,103,99,109],13,768,0,0,17,256,22,0,4,4⟩]
def aj3 (k:Nat):List V:=(Jd.take k).map QC.v++(Jd.drop k).map fun s=>QC.v { s with code:=0 }
theorem amQ (k:Nat) (h:k < 16):∃ cs,(aj3 k)[k]? = some (.agg (V.int 0 :: cs))∧cs.length = 11∧(aj3 k).set k (.agg (V.int ((k + 1:Nat):Int) :: cs)) = aj3 (k + 1):=by
 rcases (by omega:k = 0∨k = 1∨k = 2∨k = 3∨k = 4∨k = 5∨k = 6∨k = 7∨k = 8∨k = 9∨k = 10∨k = 11∨k = 12∨k = 13∨k = 14∨k = 15) with rfl|rfl|rfl|rfl|rfl|rfl|rfl|rfl|rfl|rfl|rfl|rfl|rfl|rfl|rfl|rfl
 all_goals exact ⟨_,rfl,rfl,rfl⟩
def US:=qd Proofs.Tryz.f177 [zhn 82]
def Wf (Γ:Env) (f:Nat):Prop:=EvC Γ f [] (.sl 12 (Jd.map QC.v))
theorem afr {Γ:Env} {f:Nat} (h:Has Γ.P f 125 US.1.1.ac US.1.2) (z0:vH Γ 231):Wf Γ f:=by
 refine Q0 h zsi (by simp only [V.closed]) fun C hC hm=>?_
 subst hC
 simp only [US,qd,DC.ac]
 repeat' (first|(refine zsk ?_;intro K' hK)|(refine zrg ?_;intro K' hK)|refine zsp ?_|(refine zsc ?_ ?_<;>intro hc<;>first|exact znh|try simp only [znz] at hc)|simp (maxSteps:=1000000) only [go_sem]|(refine hK _ ?_;clear hK K')|apply zan|((first|apply QA|apply Q3);(focus first|exact (z0 _ _).b))|exact zsq|fail)
 refine Qj (ι:=Nat) (fun k=>k≤16) (fun k=>QS [(15,.hd 0 0 16),(113,V.int 16),(114,V.int k)] [(0,.buf true 12 (aj3 k))] 1) (fun k=>16 - k) 0 (by omega) (Qd [(0,123000)]) (Qh _ zwa zwa (by simp) (by simp;omega) (by omega)) fun k hk K' hL=>?_
 by_cases hk':k < 16
 ·obtain ⟨cs,hget,hcs,hset⟩:=amQ k hk'
  have hw:=Qe (k:=k) (by omega)
  have hs:(1:Int)≤1:=by omega
  repeat' (first|(refine zsk ?_;intro K' hK)|(refine zrg ?_;intro K' hK)|refine zsp ?_|(refine zsc ?_ ?_<;>intro hc<;>first|exact znh|try simp only [znz] at hc)|simp (maxSteps:=1000000) only [go_sem,QS,hget,hw]|(refine hK _ ?_;clear hK K')|apply zan|((first|apply QA|apply Q3);(focus first|exact (z0 _ _).b))|exact zsq|fail)
  refine hL _ (k + 1) (Qd []) (by omega) (by omega) (Qh [] zwa (by simp only [go_sem,zwl];(try simp only [kH,Int.toNat_natCast,List.take_zero,List.nil_append,hset]);(repeat' (first|rfl|apply za|omega|exact fun h=>h|exact Exists.intro _ rfl))) (by simp) (by simp) (by omega))
 ·obtain rfl:k = 16:=by omega
  repeat' (first|(refine zsk ?_;intro K' hK)|(refine zrg ?_;intro K' hK)|refine zsp ?_|(refine zsc ?_ ?_<;>intro hc<;>first|exact znh|try simp only [znz] at hc)|simp (maxSteps:=1000000) only [go_sem,QS]|(refine hK _ ?_;clear hK K')|apply zan|((first|apply QA|apply Q3);(focus first|exact (z0 _ _).b))|exact zsq|fail)
  refine Qg _ rfl ?_;simp only [go_sem]
  rfl
theorem apM (b:Int):0≤amN b ani∧amN b ani≤256:=by
 simp only [ani,amN];repeat' split
 all_goals omega
theorem ap8 (a:Int):XK a = aq7∨XK a∈Y3:=by
 unfold XK
 split
 ·rename_i ha
  have hk:a.toNat < Y3.length:=by have:Y3.length = 23:=rfl;omega
  rw [zI,zd hk,Option.getD_some]
  exact .inr (zV hk)
 ·exact .inl rfl
theorem ala:∀ r∈Y3,∀ x∈r.strengths,0≤x∧x≤256:=by decide
theorem ai2 (a:Int):∀ x∈(XK a).strengths,0≤x∧x≤256:=by
 rcases ap8 a with h|h
 ·rw [h];simp [aq7]
 ·exact ala _ h
theorem apX {l:List Int} (h:∀ x∈l,0≤x∧x≤256) (k:Nat):0≤l.getD k 0∧l.getD k 0≤256:=by
 rw [zI]
 cases hk:l[k]? with
 | none=>simp
 | some x=>simpa using h x (zq hk)
theorem anr {l:List Int} (h:∀ x∈l,0≤x∧x≤256):0≤l.headD 0∧l.headD 0≤256:=by
 cases l with
 | nil=>simp
 | cons x r=>simpa using h x (by simp)
theorem anM (b:Int) (h:VB b 0 [160,224,256,384,521]≥0):b = 160∨b = 224∨b = 256∨b = 384∨b = 521:=by
 simpa using al5 _ _ _ h
theorem avZ (b:Int) (h:b = 160∨b = 224∨b = 256∨b = 384∨b = 521):IntKind.i64.wrap (b.tdiv 2) = b / 2:=by
 rcases h with rfl|rfl|rfl|rfl|rfl<;>rfl
theorem aiM (a b:Int):0≤Qx a b∧Qx a b≤512:=by
 have h1:=ai2 a
 have h2:=anr h1
 have h3:=apX h1 (VB b 0 (XK a).sizes).toNat
 have h4:=apM b
 simp only [Qx,yb]
 split
 ·omega
 ·split
  ·split<;>omega
  ·split
   ·split<;>omega
   ·split
    ·split
     ·rename_i hf
      have:=anM b hf
      rw [avZ b this];omega
     ·omega
    ·split
     ·split<;>omega
     ·omega
def aq9 (r:agl):V:=.agg [V.str r.name,V.int r.kind]
def am1:List V:=Y3.map aq9
theorem am0 {k:Nat} {r:agl} (h:Y3[k]? = some r):am1[k]? = some (aq9 r):=by
 rw [am1,zo,h];rfl
theorem ap9 {a:Int} (ha:1≤a∧a≤22):Y3[a.toNat]? = some (XK a):=by
 have hl:Y3.length = 23:=rfl
 have hk:a.toNat < Y3.length:=by omega
 rw [XK,if_pos ha,zI,zd hk,Option.getD_some]
def wK:=qd Proofs.Tryz.f256 []
def aaQ (Γ:Env) (f:Nat):Prop:=EvC Γ f [] (.sl 2 am1)
theorem akB {Γ:Env} {f:Nat} (h:Has Γ.P f 25 wK.1.1.ac wK.1.2) :aaQ Γ f:=by
 refine Q0 h zsi (by simp only [V.closed]) fun C hC hm=>?_
 subst hC
 simp only [wK,qd,DC.ac]
 refine zgo ?_;repeat' first|exact zt|apply zan|intro hc
 refine Qg _ rfl ?_;simp only [go_sem]
 rfl
def wL:=qd Proofs.Tryz.f198 []
def aaR (Γ:Env) (f:Nat):Prop:=∀ (a:Int),EvN Γ f [V.int a] (V.int (XK a).kind)
attribute [local go_sem] aq9 in
theorem akC {Γ:Env} {f:Nat} (h:Has Γ.P f 14 wL.1.1.ac wL.1.2) (z0:aaQ Γ 256):aaR Γ f:=by
 intro a
 refine Qc h zsi zcl zcl fun C hC hm=>?_
 subst hC
 simp only [wL,qd,DC.ac]
 by_cases ha:1≤a∧a≤22
 ·have hg:=am0 (ap9 ha)
  (have zx:=hg);refine zgo ?_;repeat' first|exact zt|apply zan|intro hc
  all_goals first|(refine Qg _ rfl ?_;simp only [go_sem];done)|(refine Qg _ rfl ?_;simp only [go_sem];simp [*];done)|(subst hc;refine Qg _ rfl ?_;simp only [go_sem];simp [*];done)
 ·have hc0:XK a = aq7:=by rw [XK,if_neg ha]
  refine zgo ?_;repeat' first|exact zt|apply zan|intro hc
  all_goals first|(refine Qg _ rfl ?_;simp only [go_sem];done)|(refine Qg _ rfl ?_;simp only [go_sem];simp [hc0,aq7, *];done)|(subst hc;refine Qg _ rfl ?_;simp only [go_sem];simp [hc0,aq7, *];done)
def xJ (b:Int):List Int→List Int→Int
 | x :: xs,y :: ys=>if x = b then y else xJ b xs ys
 | _,_=>0
def xb:=qd Proofs.Tryz.f254 []
def vF (Γ:Env) (f:Nat):Prop:=∀ (b:Int) (xs ys:List Int) (hs:xs.length≤ys.length) (h2:xs.length < 2 ^ 62),EvN Γ f [V.int b,.sl 1 (xs.map V.int),.sl 1 (ys.map V.int)] (V.int (xJ b xs ys))
theorem aiW {Γ:Env} {f:Nat} (h:Has Γ.P f 24 xb.1.1.ac xb.1.2) :vF Γ f:=by
 intro b xs ys hs h2
 refine Qc h zsi zcl zcl fun C hC hm=>?_
 subst hC
 simp only [xb,qd,DC.ac]
 refine zgo ?_;repeat' first|exact zt|apply zan|intro hc
 refine Ji (ι:=Nat) (fun k=>k≤xs.length∧xJ b (xs.drop k) (ys.drop k) = xJ b xs ys) (fun k=>[(7,V.int k)]) (fun k=>xs.length - k) 0 (by omega) ⟨by simp,by simp⟩ zol zlt zet fun k hk K' hL=>?_
 obtain ⟨hk,hinv⟩:=hk
 simp only [ovT,Xs,Nat.reduceEqDiff,reduceIte]
 rcases hd:xs.drop k with _|⟨x,r⟩
 ·have:=Qu hd
  rw [hd] at hinv
  refine zgo ?_;repeat' first|exact zt|apply zan|intro hc
  refine Qg _ rfl ?_;simp only [go_sem]
  rw [← hinv];simp [xJ]
 ·obtain ⟨hk',hget,hr⟩:=Qq hd
  rcases hd2:ys.drop k with _|⟨y,r2⟩
  ·have:=Qu hd2;omega
  ·obtain ⟨hk2,hget2,hr2⟩:=Qq hd2
   rw [hd,hd2] at hinv
   have hw:=Qe (k:=k) (by omega)
   (have zx:=za hget (za hget2 hw));refine zgo ?_;repeat' first|exact zt|apply zan|intro hc
   ·refine Qg _ rfl ?_;simp only [go_sem]
    rw [← hinv];simp [xJ,hc]
   ·refine hL _ (k + 1) zet ⟨by omega,?_⟩ (by omega) zoe
    rw [hr,hr2,← hinv,xJ,if_neg hc]
def acD (a:Int):Int:=if a = 1 then 18 else if a = 2 then 60 else if a = 3∨a = 8∨a = 21 then 128 else if a = 4 then 192 else if a = 18∨a = 22 then 256 else if a = 19 then 64 else if a = 20 then 80 else 0
def ayb (b:Int):Int:=if b < 512∨16384 < b then 0 else amN b ani
def jS:=qd Proofs.Tryz.f255 []
def xX (Γ:Env) (f:Nat):Prop:=∀ (a:Int),EvN Γ f [V.int a] (V.int (acD a))
theorem ah6 {Γ:Env} {f:Nat} (h:Has Γ.P f 21 jS.1.1.ac jS.1.2) :xX Γ f:=by
 intro a
 refine Qc h zsi zcl zcl fun C hC hm=>?_
 subst hC
 simp only [jS,qd,DC.ac]
 refine zgo ?_;repeat' first|exact zt|apply zan|intro hc
 all_goals (refine Qg _ rfl ?_;simp only [go_sem];simp [acD, *])
def KI:=qd Proofs.Tryz.f253 []
def yv (Γ:Env) (f:Nat):Prop:=∀ (b:Int),EvN Γ f [V.int b] (V.int (ayb b))
theorem agD {Γ:Env} {f:Nat} (h:Has Γ.P f 25 KI.1.1.ac KI.1.2) :yv Γ f:=by
 intro b
 refine Qc h zsi zcl zcl fun C hC hm=>?_
 subst hC
 simp only [KI,qd,DC.ac]
 refine zgo ?_;repeat' first|exact zt|apply zan|intro hc
 all_goals (refine Qg _ rfl ?_;simp only [go_sem];simp only [ayb,amN,ani];repeat' split)<;>omega
def aaj (a b:Int):Int :=
 if a = 5∨a = 6∨a = 10∨a = 11 then ayb b
 else if a = 7∨a = 12 then (if b = 160∨b = 224∨b = 256∨b = 384∨b = 521 then IntKind.i64.wrap (b.tdiv 2) else 0)
 else if a = 9 then xJ b [44,65,87] [128,192,256]
 else if a = 13 then xJ b [512,768,1024] [128,192,256]
 else if a = 14 then xJ b [40,128] [40,60]
 else if a = 15 then xJ b [112,168] [80,112]
 else if a = 16∨a = 17 then xJ b [128,256] [128,256]
 else xJ b [0] [acD a]
theorem apm (a:Int) (ha:¬ (1≤a∧a≤22)):acD a = 0:=by
 simp only [acD];repeat' split
 all_goals omega
theorem aiP (a b:Int):aaj a b = Qx a b:=by
 by_cases ha:1≤a∧a≤22
 ·rcases (by omega:a = 1∨a = 2∨a = 3∨a = 4∨a = 5∨a = 6∨a = 7∨a = 8∨a = 9∨a = 10∨a = 11∨a = 12∨a = 13∨a = 14∨a = 15∨a = 16∨a = 17∨a = 18∨a = 19∨a = 20∨a = 21∨a = 22) with rfl|rfl|rfl|rfl|rfl|rfl|rfl|rfl|rfl|rfl|rfl|rfl|rfl|rfl|rfl|rfl|rfl|rfl|rfl|rfl|rfl|rfl
  all_goals simp [aaj,Qx,yb,XK,Y3,xJ,acD,VB,ayb]
  all_goals (repeat' split)<;>first|omega|rfl|simp_all
 ·have hs:=apm a ha
  rw [Qx,yb,if_pos (by simp [ha])]
  simp only [aaj]
  rw [if_neg (by omega),if_neg (by omega),if_neg (by omega),if_neg (by omega),if_neg (by omega),if_neg (by omega),if_neg (by omega),hs]
  simp [xJ]
def UG:=qd Proofs.Tryz.f197 []
def jz (Γ:Env) (f:Nat):Prop:=∀ (a b:Int),EvN Γ f [.agg [V.int a,V.int b]] (V.int (Qx a b))
theorem aff {Γ:Env} {f:Nat} (h:Has Γ.P f 76 UG.1.1.ac UG.1.2) (z0:yv Γ 253) (z1:vF Γ 254) (z2:xX Γ 255):jz Γ f:=by
 intro a b
 refine Qc h zsi zcl zcl fun C hC hm=>?_
 subst hC
 simp only [UG,qd,DC.ac]
 rw [← aiP]
 have k1:=z1 b [44,65,87] [128,192,256] (by simp) (by simp)
 have k2:=z1 b [512,768,1024] [128,192,256] (by simp) (by simp)
 have k3:=z1 b [40,128] [40,60] (by simp) (by simp)
 have k4:=z1 b [112,168] [80,112] (by simp) (by simp)
 have k5:=z1 b [128,256] [128,256] (by simp) (by simp)
 have k6:=z1 b [0] [acD a] (by simp) (by simp)
 (have zy0:=k1.b;have zy1:=k2.b;have zy2:=k3.b;have zy3:=k4.b;have zy4:=k5.b;have zy5:=k6.b);refine zgo ?_;repeat' first|exact zt|apply zan|intro hc
 all_goals (refine Qg _ rfl ?_;simp only [go_sem];simp [aaj, *])
def xc:=qd Proofs.Tryz.f130 []
def j8 (Γ:Env) (f:Nat):Prop:=∀ (a b:Int),EvN Γ f [.agg [V.int a,V.int b]] (V.bool (decide (Qx a b > 0)))
theorem aiX {Γ:Env} {f:Nat} (h:Has Γ.P f 6 xc.1.1.ac xc.1.2) (z0:jz Γ 197):j8 Γ f:=by
 intro a b
 refine Qc h zsi zcl zcl fun C hC hm=>?_
 subst hC
 simp only [xc,qd,DC.ac]
 refine zgo ?_;repeat' first|exact zt|apply zan|intro hc
 refine Qg _ rfl ?_;simp only [go_sem]
end Av
end
