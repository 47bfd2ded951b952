/- K27 -/
import Derived.Test.YtphclkkggijicaaGreatDoorK26
import Derived.Test.YtphclkkggijicaaGreatDoorK12
import Derived.Test.YtphclkkggijicaaGreatDoorK24
import Derived.Test.YtphclkkggijicaaGreatDoorK21
import Derived.Test.YtphclkkggijicaaGreatDoorK20
import Derived.Test.YtphclkkggijicaaGreatDoorK23
set_option linter.unusedVariables false
set_option linter.unusedSimpArgs false
noncomputable section
set_option maxRecDepth 10000
set_option maxHeartbeats 4000000
namespace Av
open Go
attribute [local irreducible] AWp Vo Ky jA awS awC aad awQ aaN QL Vq vQ awR Vz awB okR js ris
def Wj:=qd Proofs.Tryz.f35 []
def VH (Γ:Env) (f:Nat):Prop:=∀ (name:List UInt8) (st:List Qs) (hn:name.length < 2 ^ 30) (hk:st.length < 2 ^ 60) (hs:∀ x∈st,x.Sm),EvN Γ f [V.str name,.sl 6 (st.map Qs.v)] (V.int (KQ name st))
theorem aaD {Γ:Env} {f:Nat} (h:Has Γ.P f 13 Wj.1.1.ac Wj.1.2) (z0:Wq Γ 48) (z1:VG Γ 92):VH Γ f:=by
 intro name st hn hk hs
 refine Qb h zsi zcl zcl fun C hC hm=>?_
 subst hC
 simp only [Wj,qd,DC.ac]
 have hw:=(z0 name hn).b
 have gc:=(z1 st hk hs).b
 rcases hq:jb name with _|_
 ·rw [hq] at hw
  rw [KQ,if_neg (by rw [hq];decide)]
  exact zg
 ·rw [hq] at hw
  rw [KQ,if_pos hq]
  by_cases hb:yB st = true
  ·rw [if_pos hb] at gc ⊢
   exact zg
  ·rw [if_neg hb] at gc ⊢
   exact zg
theorem apC {rs:List V8} {s:St} {cs cs2:List V} (a:Nat) (h:vn s rs = some [.ptr a 0]) (ho:s.o a = some (.box true cs)) (hc:Qz s.o [a] none cs cs2):xP 0 rs (.ptr 0 0) [.box true cs2] s :=
 Wb rs _ _ h ⟨[a],none,by simp [ahG,conv],⟨⟨_,ho,fun h=>h,hc⟩,trivial⟩,by simp,rfl⟩
theorem am6:(vc [97,108,108]).1 = [1,2,3,4,5,6,7,8,9,10,11,12,13,14,15,16]:=by decide +kernel
def Wk:=qd Proofs.Tryz.f36 []
def VI (Γ:Env) (f:Nat):Prop:=∀ (name:List UInt8) (st:List Qs),EvR Γ f [V.str name,.sl 6 (st.map Qs.v)] ((drC (ahH name) st))
theorem aaE {Γ:Env} {f:Nat} (h:Has Γ.P f 17 Wk.1.1.ac Wk.1.2) (z0:Wp Γ 93):VI Γ f:=by
 intro name st
 refine acM h (by simp) (J2 _ _) fun C hC hm=>?_
 subst hC
 simp only [Wk,qd,DC.ac]
 have hs:=(z0 [97,108,108] (by decide)).b
 rw [am6] at hs
 simp only [drC,ahH]
 refine zgo ?_;repeat' first|exact zt|apply zan|intro hc
 all_goals (refine apC _ rfl rfl ?_;simp [Qz,conv,V.int,V.str,V.bool];done)
def aoE (e:QI):V:=if e.least≤e.most then .tup [e.v,V.int 0,V.int 0] else afW 0 19
theorem aig (e:QI):(aoE e).closed:=by
 unfold aoE;split
 ·simp only [QI.v,QI.cells,V.closed,Qa,and_self]
 ·exact jR _ _
def JN:=qd Proofs.Tryz.f41 [zhn 11]
def Yp (Γ:Env) (f:Nat):Prop:=∀ (e:QI) (st:List Qs),EvD Γ f [] (drC e st) (aoE e) (drC e st)
theorem qC {Γ:Env} {f:Nat} (h:Has Γ.P f 21 JN.1.1.ac JN.1.2) :Yp Γ f:=by
 intro e st
 refine QT h zsi (aig _) zc3 zc3 fun C hC hm=>?_
 subst hC
 simp only [JN,qd,DC.ac]
 by_cases hle:e.least≤e.most
 ·have e1:decide (e.least > e.most) = false:=by simp;omega
  rw [aoE,if_pos hle]
  simp only [drC,QI.v,QI.cells]
  (have zx:=e1);refine zgo ?_;repeat' first|exact zt|apply zan|intro hc
  all_goals (refine QB _ rfl rfl zcd ?_;simp only [go_sem];done)
 ·have e1:decide (e.least > e.most) = true:=by simp;omega
  rw [aoE,if_neg hle]
  simp only [drC,afW,akm,QI.v,QI.cells,zo]
  (have zx:=e1);refine zgo ?_;repeat' first|exact zt|apply zan|intro hc
  all_goals (refine QB _ rfl rfl zcd ?_;simp only [go_sem];done)
def aiH:List V:=[V.str [108,101,97,115,116],V.str [109,111,115,116],V.str [115,117,105,116,101,115],V.str [111,114,100,101,114],V.str [107,101,121,115],V.str [97,110,99,104,111,114,115],V.str [104,97,115,104,101,115],V.str [102,97,108,108,98,97,99,107]]
theorem kS1:Vs false [1] (V.str [109,111,115,116]) [V.str [108,101,97,115,116]] 0 = some none:=by decide
theorem kS2:Vs false [1] (V.str [115,117,105,116,101,115]) [V.str [108,101,97,115,116],V.str [109,111,115,116]] 0 = some none:=by decide
theorem kS3:Vs false [1] (V.str [111,114,100,101,114]) [V.str [108,101,97,115,116],V.str [109,111,115,116],V.str [115,117,105,116,101,115]] 0 = some none:=by decide
theorem kS4:Vs false [1] (V.str [107,101,121,115]) [V.str [108,101,97,115,116],V.str [109,111,115,116],V.str [115,117,105,116,101,115],V.str [111,114,100,101,114]] 0 = some none:=by decide
theorem kS5:Vs false [1] (V.str [97,110,99,104,111,114,115]) [V.str [108,101,97,115,116],V.str [109,111,115,116],V.str [115,117,105,116,101,115],V.str [111,114,100,101,114],V.str [107,101,121,115]] 0 = some none:=by decide
theorem kS6:Vs false [1] (V.str [104,97,115,104,101,115]) [V.str [108,101,97,115,116],V.str [109,111,115,116],V.str [115,117,105,116,101,115],V.str [111,114,100,101,114],V.str [107,101,121,115],V.str [97,110,99,104,111,114,115]] 0 = some none:=by decide
theorem kS7:Vs false [1] (V.str [102,97,108,108,98,97,99,107]) [V.str [108,101,97,115,116],V.str [109,111,115,116],V.str [115,117,105,116,101,115],V.str [111,114,100,101,114],V.str [107,101,121,115],V.str [97,110,99,104,111,114,115],V.str [104,97,115,104,101,115]] 0 = some none:=by decide
theorem agR (s:List UInt8):∀ (ks:List (List UInt8)) (i:Nat),s ∉ ks→Vs false [1] (V.str s) (ks.map V.str) i = some none
 | [],i,_=>rfl
 | k :: r,i,hn=>by
   have h:xV false [1] (V.str s) (V.str k) = some false:=by
    have:¬ s = k:=fun e=>hn (by simp [e])
    have hb:((⟨s.toArray⟩:ByteArray) == ⟨k.toArray⟩) = false:=by
     show (s.toArray == k.toArray) = false
     simpa using this
    simp [xV,JG,V.str,hb]
   rw [zp,Vs,h]
   exact agR s r (i + 1) fun hm=>hn (kc _ hm)
def JX:=qd Proofs.Tryz.f37 []
def YH (Γ:Env) (f:Nat):Prop:=(∃ g1 g2 g3 g4 g5 g6 g7 g8:Nat,Q8 Γ g1∧Q7 Γ g2∧Jo Γ g3∧Q6 Γ g4∧Jp Γ g5∧Q5 Γ g6∧Q4 Γ g7∧Q3 Γ g8∧∀ cs:List V,Qa cs→EvJ Γ f cs aiH [.clo (.n g1) [.ptr 2 0],.clo (.n g2) [.ptr 2 0],.clo (.m g3) [.ptr 0 0],.clo (.n g4) [.ptr 2 0],.clo (.m g5) [.ptr 0 0],.clo (.n g6) [.ptr 2 0],.clo (.n g7) [.ptr 2 0],.clo (.n g8) [.ptr 2 0]] 0)
attribute [local go_sem] kS1 kS2 kS3 kS4 kS5 kS6 kS7 in
theorem ji {Γ:Env} {f:Nat} (h:Has Γ.P f 15 JX.1.1.ac JX.1.2) (z0:Q8 Γ 94) (z1:Q7 Γ 96) (z2:Jo Γ 97) (z3:Q6 Γ 98) (z4:Jp Γ 100) (z5:Q5 Γ 101) (z6:Q4 Γ 104) (z7:Q3 Γ 106):YH Γ f:=by
 refine ⟨94,96,97,98,100,101,104,106,z0,z1,z2,z3,z4,z5,z6,z7,fun cs hcs=>?_⟩
 refine ain h (by simp) hcs fun C hC hm=>?_
 subst hC
 simp only [JX,qd,DC.ac]
 refine zgo ?_;repeat' first|exact zt|apply zan|intro hc
 all_goals (refine aqH 2001 1 rfl rfl rfl rfl hcs ?_ rfl;simp [Qz,conv])
theorem aql {a b:Nat}:sig [a] b 0 = a:=rfl
theorem aqk {a b:Nat}:sig [a] b 2 = b + 1:=rfl
def V9 (g1 g2 g3 g4 g5 g6 g7 g8:Nat):List V:=[.clo (.n g1) [.ptr 3 0],.clo (.n g2) [.ptr 3 0],.clo (.m g3) [.ptr 1 0],.clo (.n g4) [.ptr 3 0],.clo (.m g5) [.ptr 1 0],.clo (.n g6) [.ptr 3 0],.clo (.n g7) [.ptr 3 0],.clo (.n g8) [.ptr 3 0]]
theorem afZ {Γ:Env} {g1 g2 g3 g4 g5 g6 g7 g8:Nat} (c1:Q8 Γ g1) (c2:Q7 Γ g2) (c3:Jo Γ g3) (c4:Q6 Γ g4) (c5:Jp Γ g5) (c6:Q5 Γ g6) (c7:Q4 Γ g7) (c8:Q3 Γ g8)
  {w:List UInt8} (hw:w∈Y2) {l:List (List UInt8)} (e:QI) {st:List Qs} (hl:l.length < 2 ^ 28) (hs:∀ s∈l,s.length < 2 ^ 30) (hk:st.length < 2 ^ 60) (hst:∀ x∈st,x.Sm) :
  ∃ i,Vs false [1] (V.str w) aiH 0 = some (some i)∧((∃ g,(V9 g1 g2 g3 g4 g5 g6 g7 g8)[i]? = some (.clo (.n g) [.ptr 3 0])∧EvH Γ g (.sl 1 (l.map V.str)) (drC e st) (V.bool (Xd st w l e).1) (drC (Xd st w l e).2 st)) ∨
   (∃ g,(V9 g1 g2 g3 g4 g5 g6 g7 g8)[i]? = some (.clo (.m g) [.ptr 1 0])∧EvD Γ g [.sl 1 (l.map V.str)] (drC e st) (V.bool (Xd st w l e).1) (drC (Xd st w l e).2 st))):=by
 simp only [Y2,zn,zw,or_false] at hw
 unfold Xd
 rcases hw with rfl|rfl|rfl|rfl|rfl|rfl|rfl|rfl
 ·rw [if_pos rfl];exact ⟨0,by decide,.inl ⟨g1,rfl,c1 l e st hs⟩⟩
 ·rw [if_neg (by decide),if_pos rfl];exact ⟨1,by decide,.inl ⟨g2,rfl,c2 l e st hs⟩⟩
 ·rw [if_neg (by decide),if_neg (by decide),if_pos rfl];exact ⟨2,by decide,.inr ⟨g3,rfl,c3 l e st hs⟩⟩
 ·rw [if_neg (by decide),if_neg (by decide),if_neg (by decide),if_pos rfl];exact ⟨3,by decide,.inl ⟨g4,rfl,c4 l e st⟩⟩
 ·rw [if_neg (by decide),if_neg (by decide),if_neg (by decide),if_neg (by decide),if_pos rfl];exact ⟨4,by decide,.inr ⟨g5,rfl,c5 l e st hl hk hst⟩⟩
 ·rw [if_neg (by decide),if_neg (by decide),if_neg (by decide),if_neg (by decide),if_neg (by decide),if_pos rfl];exact ⟨5,by decide,.inl ⟨g6,rfl,c6 l e st hs (by omega)⟩⟩
 ·rw [if_neg (by decide),if_neg (by decide),if_neg (by decide),if_neg (by decide),if_neg (by decide),if_neg (by decide),if_pos rfl];exact ⟨6,by decide,.inl ⟨g7,rfl,c7 l e st (by omega)⟩⟩
 ·rw [if_neg (by decide),if_neg (by decide),if_neg (by decide),if_neg (by decide),if_neg (by decide),if_neg (by decide),if_neg (by decide)];exact ⟨7,by decide,.inl ⟨g8,rfl,c8 l e st⟩⟩
theorem apx (e:QI):∃ e' n k,aoE e = .tup [QI.v e',V.int n,V.int k]:=by
 unfold aoE;split<;>exact ⟨_,_,_,rfl⟩
def fmO (e:QI) (st:List Qs) (ws:List V):List (Nat×Ob):=[(0,.box true Xk),(1,.box true (drC e st)),(2,.map aiH ws 0),(3,.box true [.ptr 1 0])]
def JY:=qd Proofs.Tryz.f16 [⟨fun _=>false,[2],.one 0 (.one 1 (.or 2 (.one 3 (.one 4 (.one 5 (.done)))) (.or 3 (.one 2 (.one 4 (.one 5 (.done)))) (.done))))⟩,⟨fun y=>!decide (y = 1) && !decide (y = 3),[14],zoc 0 17⟩,⟨fun _=>false,[2],.one 0 (.one 1 (.or 2 (.one 3 (.one 4 (.one 5 (.done)))) (.or 3 (.one 2 (.one 4 (.one 5 (.done)))) (.done))))⟩]
def JP (Γ:Env) (f:Nat):Prop:=∀ (l:List JU) (name:List UInt8) (st:List Qs) (hn:name.length < 2 ^ 30) (hl:l.length < 2 ^ 27) (hv:∀ x∈l,x.val.length < 2 ^ 27) (hk:st.length < 2 ^ 60) (hs:∀ x∈st,x.Sm),EvC Γ f [.sl 4 (l.map JU.v),V.str name,.sl 6 (st.map Qs.v)] (acs l name st)
attribute [local go_sem] List.headD_cons List.length_nil JU.cells JU.v V.ren drC fmO Yd Kz aql aqk Xk in
theorem jj {Γ:Env} {f:Nat} (h:Has Γ.P f 100 JY.1.1.ac JY.1.2) (z0:VH Γ 35) (z1:VI Γ 36) (z2:YH Γ 37) (z3:Yg Γ 38) (z4:QH Γ 39) (z5:Vh Γ 40) (z6:Yp Γ 41):JP Γ f:=by
 intro l name st hn hl hv hk hs
 refine Qn h zsi (aa7 _ _ _) fun C hC hm=>?_
 subst hC
 simp only [JY,qd,DC.ac]
 have hm:C.m = 0:=by simpa using hm
 have hlm:(l.map JU.v).length = l.length:=zh _
 have hb:=(z0 name st hn hk hs).b
 by_cases h0:KQ name st≠0
 ·rw [acs,if_pos h0]
  generalize KQ name st = er at *
  have e0:(er != 0) = true:=by simpa using h0
  simp only [afW,akm,QI.v,QI.cells,zo]
  (have zx:=e0);exact zg
 have h0:KQ name st = 0:=by simpa using h0
 rw [h0] at hb
 (have zx:=hlm);refine zgo ?_;repeat' first|exact zt|apply zan|intro hc
 refine JO (ι:=Nat) (fun k=>k≤l.length) (fun k=>stL [(1,V.str name),(2,.sl 6 (st.map Qs.v)),(6,.ptr 0 0),(10,.hd 1 0 (ac9 (l.take k) name).length),(27,.sl 4 (l.map JU.v)),(28,V.int l.length),(29,V.int k)] [.box true Xk,.buf true 4 ((ac9 (l.take k) name).map JU.v)]) (fun k=>l.length - k) 0 (zu _) (by rw [show ac9 (l.take 0) name = [] from rfl];exact wK [0,9000] (by rw [hm];rfl) ⟨⟨_,rfl,fun h=>h,JJ _ _ _ _ _ _ _ _ _⟩,⟨_,rfl,fun h=>h,rfl,rfl⟩,trivial⟩) fun k hk2 K' hL=>?_
 rcases hd:l.drop k with _|⟨x,r⟩
 rotate_left
 ·obtain ⟨hk',hget,hr⟩:=Qf hd
  have hwi:=Qc (k:=k) (by omega)
  have e1:decide ((k:Int) < ((l.length:Nat):Int)) = true:=by simp;omega
  have hot:=agn (name:=name) hget
  have hol:=aeS (l.take k) name
  have hlt:(l.take k).length≤k:=by simp;omega
  simp only [stL,Xk]
  rcases hx:x.sec == name with _|_
  ·rw [hx,if_neg (by decide)] at hot
   (have zx:=za e1 (za hlm (za hwi (za hget hx))));refine zgo ?_;repeat' first|exact zt|apply zan|intro hc
   all_goals exact hL _ (k + 1) (by omega) (by omega) (by rw [hot];exact wK [0,1] (by rw [hm];rfl) ⟨⟨_,rfl,fun h=>h,JJ _ _ _ _ _ _ _ _ _⟩,⟨_,rfl,fun h=>h,rfl,rfl⟩,trivial⟩)
  ·rw [hx,if_pos rfl] at hot
   generalize ac9 (l.take k) name = own at *
   have hap:List.take own.length (List.map JU.v own)++[V.agg [V.str x.sec,V.str x.name,V.str x.val,V.int x.line]] = (own++[x]).map JU.v:=by
    rw [zb (by simp),zD];rfl
   have hln:own.length + 1 = (own++[x]).length:=by simp
   (have zx:=za e1 (za hlm (za hwi (za hget hx))));refine zgo ?_;repeat' first|exact zt|apply zan|intro hc
   rw [hap,hln]
   all_goals exact hL _ (k + 1) (by omega) (by omega) (by rw [hot];exact wK [0,12002] (by rw [hm];rfl) ⟨⟨_,rfl,fun h=>h,JJ _ _ _ _ _ _ _ _ _⟩,⟨_,rfl,fun h=>h,rfl,rfl⟩,trivial⟩)
 have hkl:=Qj hd
 have e1:decide ((k:Int) < ((l.length:Nat):Int)) = false:=by simp;omega
 rw [zb hkl]
 have hol:=aeS l name
 have hmem:∀ x∈ac9 l name,x.val.length < 2 ^ 27:=fun x hx=>hv x (List.mem_filter.1 hx).1
 rw [acs,if_neg (by rw [h0];simp)]
 generalize ac9 l name = own at *
 clear hL
 refine amB (s1:=stL [(1,V.str name),(2,.sl 6 (st.map Qs.v)),(6,.ptr 0 0),(10,.sl 4 (own.map JU.v)),(28,V.int l.length),(29,V.int k)] [.box true Xk]) (wK [0] (by rw [hm];rfl) ⟨⟨_,rfl,fun h=>h,JJ _ _ _ _ _ _ _ _ _⟩,trivial⟩) ?_
 have hlo:(own.map JU.v).length = own.length:=zh _
 simp only [stL,Xk]
 by_cases hq:own = []
 ·subst hq
  rw [if_pos rfl]
  simp only [afW,akm,QI.v,QI.cells,zo]
  (have zx:=e1);exact zg
 rw [if_neg hq]
 have e2:(((own.length:Nat):Int) == 0) = false:=by
  have:=List.length_pos_iff.2 hq
  simp;omega
 obtain ⟨g1,g2,g3,g4,g5,g6,g7,g8,c1,c2,c3,c4,c5,c6,c7,c8,hJ⟩:=z2
 have hbe:=z1 name st
 generalize ahH name = e0 at *
 have hJ0:=hJ _ (J2 e0 st)
 simp only [drC] at hbe hJ0
 (have zx:=za e1 (za e2 hlo));refine zgo ?_;repeat' first|exact zt|apply zan|intro hc
 refine QA (ι:=Nat) (fun k=>k≤own.length∧(own.take k).find? adJ = none) (fun k=>Yd [(6,.ptr 0 0),(10,.sl 4 (own.map JU.v)),(13,.ptr 1 0),(14,.mp 2),(51,.sl 4 (own.map JU.v)),(52,V.int own.length),(53,V.int k)] (fmO e0 st (V9 g1 g2 g3 g4 g5 g6 g7 g8)) 4) (fun k=>own.length - k) 0 ⟨zu _,rfl⟩ (Qo [(1,6001),(2,9001),(3,9002)]) (JZ [(1,6001),(2,9001),(3,9002)] (by simp only [go_sem,zwl,fmO,Xk,drC,V9]<;>exact zcc) (by simp only [go_sem,zwl,fmO,Xk,drC,V9]<;>exact zcc) (by simp [fmO,Qo]) (by simp [fmO];omega) (by omega)) fun k hk3 K2 hL2=>?_
 obtain ⟨hk3,hno⟩:=hk3
 rcases hdo:own.drop k with _|⟨x,r⟩
 rotate_left
 ·obtain ⟨hk',hget,hr⟩:=Qf hdo
  have hwi:=Qc (k:=k) (by omega)
  have e3:decide ((k:Int) < ((own.length:Nat):Int)) = true:=by simp;omega
  obtain ⟨q1,q2⟩:=aju hdo hno
  by_cases hx:x.name∈Y2
  ·obtain ⟨i,hnm,hcl⟩:=afZ c1 c2 c3 c4 c5 c6 c7 c8 hx (l:=[]) e0 (by simp) (by simp) hk hs
   obtain ⟨fk,cc,hcl⟩:∃ fk cc,(V9 g1 g2 g3 g4 g5 g6 g7 g8)[i]? = some (.clo fk cc):=by
    rcases hcl with ⟨g,h,_⟩|⟨g,h,_⟩<;>exact ⟨_,_,h⟩
   (have zx:=za e3 (za hlo (za hwi (za hget (za hnm hcl)))));refine zgo ?_;repeat' first|exact zt|apply zan|intro hc
   all_goals exact hL2 _ (k + 1) (Qo []) ⟨by omega,q1 hx⟩ (by omega) (JZ [] (by simp only [go_sem,zwl,fmO,Xk,V9]<;>exact zcc) (by simp only [go_sem,zwl,fmO,Xk,V9,drC]<;>exact zcc) (by simp [fmO,Qo]) (by simp [fmO]) (by omega))
  ·have hnm:=agR x.name Y2 0 hx
   rw [show Y2.map V.str = aiH from rfl] at hnm
   rw [q2 hx]
   simp only [afW,akm,QI.v,QI.cells,zo]
   (have zx:=za e3 (za hlo (za hwi (za hget hnm))));exact zg
 have hkl:=Qj hdo
 have e3:decide ((k:Int) < ((own.length:Nat):Int)) = false:=by simp;omega
 rw [zb hkl] at hno
 have hwd:=ajt hno
 rw [hno]
 simp only
 clear hL2
 generalize hG:aaj st (qy own) e0 = G
 (have zx:=za e3 hlo);refine zgo ?_;repeat' first|exact zt|apply zan|intro hc
 refine QA (ι:=Nat×QI) (fun q=>q.1≤own.length∧aaj st (qy (own.drop q.1)) q.2 = G) (fun q=>Yd [(6,.ptr 0 0),(10,.sl 4 (own.map JU.v)),(13,.ptr 1 0),(14,.mp 2),(66,.sl 4 (own.map JU.v)),(67,V.int own.length),(68,V.int q.1)] (fmO q.2 st (V9 g1 g2 g3 g4 g5 g6 g7 g8)) 4) (fun q=>own.length - q.1) (0,e0) ⟨zu _,hG⟩ (Qo []) (JZ [] (by simp only [go_sem,zwl,fmO,Xk,drC,V9]<;>exact zcc) (by simp only [go_sem,zwl,fmO,Xk,drC,V9]<;>exact zcc) (by simp [fmO,Qo]) (by simp [fmO]) (by omega)) fun q hq3 K3 hL3=>?_
 clear e3 hkl hdo hk3
 obtain ⟨j,e⟩:=q
 obtain ⟨hj,hrun⟩:=hq3
 simp only at hj hrun
 rcases hdj:own.drop j with _|⟨x,r⟩
 ·have hjl:=Qj hdj
  have e4:decide ((j:Int) < ((own.length:Nat):Int)) = false:=by simp;omega
  rw [hdj,qy,aaj] at hrun
  subst hrun
  have hfi:=z6 e st
  rw [show aaq (none,e) = aoE e from rfl]
  obtain ⟨e',n',k',hfe⟩:=apx e
  rw [hfe] at hfi ⊢
  simp only [QI.v,QI.cells,drC] at hfi ⊢
  (have zx:=e4);exact zg
 obtain ⟨hj',hgj,hrj⟩:=Qf hdj
 have hwj:=Qc (k:=j) (by omega)
 have e4:decide ((j:Int) < ((own.length:Nat):Int)) = true:=by simp;omega
 have hxm:=zk hgj
 have hvx:=hmem x hxm
 have hcf:=(z4 (own.drop (j + 1)) 38 [.ro x.cells 0] (fun y=>y.name == x.name) (fun y _=>z3 y x) (by simp [V.closed,Qa]) (by simp;omega)).b
 have hsl:List.take (own.length - (j + 1)) (List.drop (j + 1) (List.map JU.v own)) = (own.drop (j + 1)).map JU.v:=by
  rw [zb (by simp),List.map_drop]
 simp only [JU.cells] at hcf
 rw [hdj,qy] at hrun
 rw [hrj] at hcf hsl
 rcases hag:r.any (fun y=>y.name == x.name) with _|_
 rotate_left
 ·rw [hag,if_pos rfl] at hrun
  rw [hag] at hcf
  (have zx:=za e4 (za hwj (za hlo (za hsl hgj))));refine zgo ?_;repeat' first|exact zt|apply zan|intro hc
  all_goals exact hL3 _ (j + 1,e) (Qo []) ⟨by simp only;omega,by rw [hrj];exact hrun⟩ (by simp only;omega) (JZ [] (by simp only [go_sem,zwl,fmO,Xk,V9]<;>exact zcc) (by simp only [go_sem,zwl,fmO,Xk,V9,drC]<;>exact zcc) (by simp [fmO,Qo]) (by simp [fmO]) (by omega))
 rw [hag,if_neg (by decide),aaj] at hrun
 rw [hag] at hcf
 have sm:=alV hvx
 have hva:=(z5 x (by omega)).b
 obtain ⟨i,hnm,hcl⟩:=afZ c1 c2 c3 c4 c5 c6 c7 c8 (hwd x hxm) (l:=Uj x) e sm.hl sm.hs hk hs
 change (if (Xd st x.name (Uj x) e).1 = true then aaj st (qy r) (Xd st x.name (Uj x) e).2 else (some x.line,e)) = G at hrun
 have hvl:((Uj x).map V.str).length = (Uj x).length:=zh _
 have hvt:List.take (Uj x).length ((Uj x).map V.str) = (Uj x).map V.str:=zb (by simp)
 obtain ⟨vs,hvs⟩:∃ vs,vs = Uj x:=⟨_,rfl⟩
 rw [← hvs] at hva hvl hvt hrun hcl
 clear sm hvs
 obtain ⟨ap,hap⟩:∃ ap,ap = Xd st x.name vs e:=⟨_,rfl⟩
 rw [← hap] at hrun hcl
 clear hap
 obtain ⟨b,e'⟩:=ap
 simp only [JU.v,JU.cells] at hva
 simp only at hcl hrun
 rcases b with _|_
 ·rw [if_neg (by simp)] at hrun
  subst hrun
  simp only [aaq,afW,akm,QI.v,QI.cells,zo]
  rcases hcl with ⟨g,hcl,hH⟩|⟨g,hcl,hH⟩
  ·(have zx:=za e4 (za hwj (za hlo (za hsl (za hgj (za hnm (za hcl (za hvl hvt))))))));exact zg
  ·(have zx:=za e4 (za hwj (za hlo (za hsl (za hgj (za hnm (za hcl (za hvl hvt))))))));exact zg
 ·rw [if_pos rfl] at hrun
  rcases hcl with ⟨g,hcl,hH⟩|⟨g,hcl,hH⟩
  ·(have zx:=za e4 (za hwj (za hlo (za hsl (za hgj (za hnm (za hcl (za hvl hvt))))))));refine zgo ?_;repeat' first|exact zt|apply zan|intro hc
   all_goals exact hL3 _ (j + 1,e') (Qo []) ⟨by simp only;omega,by rw [hrj];exact hrun⟩ (by simp only;omega) (JZ [] (by simp only [go_sem,zwl,fmO,Xk,V9]<;>exact zcc) (by simp only [go_sem,zwl,fmO,Xk,V9,drC]<;>exact zcc) (by simp [fmO,Qo]) (by simp [fmO]) (by omega))
  ·(have zx:=za e4 (za hwj (za hlo (za hsl (za hgj (za hnm (za hcl (za hvl hvt))))))));refine zgo ?_;repeat' first|exact zt|apply zan|intro hc
   all_goals exact hL3 _ (j + 1,e') (Qo []) ⟨by simp only;omega,by rw [hrj];exact hrun⟩ (by simp only;omega) (JZ [] (by simp only [go_sem,zwl,fmO,Xk,V9]<;>exact zcc) (by simp only [go_sem,zwl,fmO,Xk,V9,drC]<;>exact zcc) (by simp [fmO,Qo]) (by simp [fmO]) (by omega))
section
variable {C:Ctx} {nt:Nat} {s:St} {K:St→Prop} {E:Nat→St→Prop} {R:St→Prop}
end
theorem ak6 {l:List Int} {k:Nat} {a:Int}:(adb l k a).1.natAbs≤100000:=by
 unfold adb
 split
 ·exact zu _
 ·rename_i h
  refine qv h ?_ ?_
  ·unfold wh;(repeat' split)<;>simp
  ·unfold wh;(repeat' split)<;>simp
theorem ai6 {l:List Int} {k:Nat}:(alT l k).1.1.natAbs≤100000∧(alT l k).1.2.natAbs≤100000:=⟨qv (by simp) (by simp) (by decide),ak6⟩
theorem amr {l:List Int} {k:Nat} {nm:List UInt8} {a b id:Int} (hk:k≤l.length):(yG l k nm a b id).2≤l.length:=by
 have k1:=KP (l:=l) (k:=k) (xs:=[1,0,2]) hk
 have k2:=Jm (l:=l) (n:=2) k1
 have:∀ (m i d:Nat) (iss:List UInt8) (sg:Int) (ab:List Qi),d≤l.length→(Ww l m i d iss sg ab).2≤l.length:=by
  intro m
  induction m with
  | zero=>intro i d iss sg ab h;exact h
  | succ m ih=>intro i d iss sg ab h;rw [Ww];exact ih _ _ _ _ _ (abV h)
 simp only [yG]
 exact abV (this _ _ _ _ _ _ k2)
theorem am5 {c:Qi} {key:Int} (h:c.T):(adc c key).Sm:=by
 have l1:=h.l1
 have l2:=h.l2
 have l3:=h.l3
 unfold adc
 split
 ·exact ⟨by show c.issuer.length < _;omega,by show c.subject.length < _;omega,by show c.names.length < _;omega,fun x hx=>by have:=h.l4 x hx;omega⟩
 ·exact ⟨by simp [afX],by simp [afX],by simp [afX],fun x hx=>by simp [afX] at hx⟩
theorem ajr {l:List Int} {k:Nat} {iss sub:List UInt8} {a b id sg:Int} {au:Bool} (hk:k≤l.length) (h1:iss.length≤900) (h2:sub.length≤900) (ha:I60 a) (hb:I60 b) (hi:I60 id):(vM l k iss sub a b id sg au).1.Sm:=by
 refine am5 (aiu h1 h2 ha hb hi ?_ ?_ ?_ ?_ ?_)
 ·have:=Ja (l:=l) (k:=k) (n:=1000) (by omega) (by omega)
  show (Jd l k 1000).1.natAbs≤_
  omega
 ·exact qv (by simp) (by simp) (by decide)
 ·exact qv (by simp) (by simp) (by decide)
 ·exact qv (by simp) (by simp) (by decide)
 ·cases au
  ·exact zu _
  ·exact qv (by simp) (by simp) (by decide)
theorem aey {l:List Int}:∀ (m i k:Nat) (iss:List UInt8) (sg:Int) (ab:List Qi),k≤l.length→iss.length≤900→i + m≤3→(∀ c∈ab,c.Sm)→(∀ c∈(Ww l m i k iss sg ab).1.1,c.Sm)∧(Ww l m i k iss sg ab).1.2.1.length≤900∧(Ww l m i k iss sg ab).2≤l.length∧(Ww l m i k iss sg ab).1.1.length = ab.length + m
 | 0,i,k,iss,sg,ab,hk,hi,hm,h=>⟨h,hi,hk,rfl⟩
 | m + 1,i,k,iss,sg,ab,hk,hi,hm,h=>by
   have hs:=aiJ i
   rw [Ww]
   obtain ⟨g1,g2,g3,g4⟩:=aey (l:=l) m (i + 1) (vM l k iss (subj i) 5 2048 (11 + (i:Int)) sg true).2 (subj i) (11 + (i:Int)) ((vM l k iss (subj i) 5 2048 (11 + (i:Int)) sg true).1 :: ab) (abV hk) (by omega) (by omega) (fun c hc=>by
    rcases zn.1 hc with rfl|hc
    ·exact ajr hk hi (by omega) (by unfold I60;omega) (by unfold I60;omega) (by unfold I60;omega)
    ·exact h c hc)
   exact ⟨g1,g2,g3,by rw [g4,List.length_cons];omega⟩
theorem ams {l:List Int} {k:Nat} {nm:List UInt8} {a b id:Int} (hk:k≤l.length) (h2:nm.length≤900) (ha:I60 a) (hb:I60 b) (hi:I60 id):(∀ c∈(yG l k nm a b id).1,c.Sm)∧(yG l k nm a b id).1.length≤3:=by
 have k1:=KP (l:=l) (k:=k) (xs:=[1,0,2]) hk
 have m1:=ah1 (l:=l) (k:=k) (xs:=[1,0,2]) (by simp) (by simp)
 have k2:=Jm (l:=l) (n:=2) k1
 have hn:(ofD l k [1,0,2]).1.toNat≤2:=by simp only [zn,zw,or_false] at m1;omega
 obtain ⟨g1,g2,g3,g4⟩:=aey (l:=l) (ofD l k [1,0,2]).1.toNat 0 (Jd l (ofD l k [1,0,2]).2 2).2 [114,111,111,116] (1 + (Jd l (ofD l k [1,0,2]).2 2).1) [] k2 (by simp) (by omega) (by simp)
 simp only [yG]
 refine ⟨fun c hc=>?_,by rw [List.length_cons,g4,List.length_nil];omega⟩
 rcases zn.1 hc with rfl|hc
 ·exact ajr g3 g2 h2 ha hb hi
 ·exact g1 c hc
structure QI.D (e:QI):Prop where
 hn:e.name.length≤900
 hm:e.most.natAbs≤100000
 hs:e.suites.length≤20
 hi:e.idents.length≤5
 ha:e.anchors.length≤5
 hh:e.hashes.length≤5
 hx:∀ x∈e.idents,x.Sm
theorem QI.D.sm {e:QI} (h:e.D):e.Sm:=⟨by have:=h.hn;omega,by have:=h.hs;omega,by have:=h.hi;omega,h.hx,by have:=h.ha;omega,by have:=h.hh;omega⟩
theorem QI.D.se {e:QI} (h:e.D):e.SmE:=⟨by have:=h.hs;omega,by have:=h.ha;omega,by have:=h.hh;omega,by have:=h.hi;omega,fun x hx=>(h.hx x hx).hl,fun x hx c hc=>((h.hx x hx).hc c hc).h3⟩
theorem NR.len {a:List Int} (h:NR a):a.length≤16:=alM h.nd h.rg
end Av
end
