/- B27 -/
import Derived.Test.YtphclkkggijicaaGreatDoorB26
import Derived.Test.YtphclkkggijicaaGreatDoorB12
import Derived.Test.YtphclkkggijicaaGreatDoorB24
import Derived.Test.YtphclkkggijicaaGreatDoorB21
import Derived.Test.YtphclkkggijicaaGreatDoorB20
import Derived.Test.YtphclkkggijicaaGreatDoorB23
set_option linter.unusedVariables false
set_option linter.unusedSimpArgs false
noncomputable section
set_option maxRecDepth 10000
set_option maxHeartbeats 4000000
namespace Av
open Go
attribute [local irreducible] AWp W7 Kx jy awS awC vE awQ aay QP W6 vu awR Vn awB okR jx ris
def Wz:=qd Proofs.Tryz.f35 []
def Wf (Γ:Env) (f:Nat):Prop:=∀ (name:List UInt8) (st:List Qv) (hn:name.length < 2 ^ 30) (hk:st.length < 2 ^ 60) (hs:∀ x∈st,x.Sm),EvN Γ f [V.str name,.sl 6 (st.map Qv.v)] (V.int (Va name st))
theorem aa7 {Γ:Env} {f:Nat} (h:Has Γ.P f 13 Wz.1.1.ac Wz.1.2) (z0:WG Γ 48) (z1:V8 Γ 92):Wf Γ f:=by
 intro name st hn hk hs
 refine Qb h zsi zcl zcl fun C hC hm=>?_
 subst hC
 simp only [Wz,qd,DC.ac]
 have hw:=(z0 name hn).b
 have gc:=(z1 st hk hs).b
 rcases hq:xn name with _|_
 ·rw [hq] at hw
  rw [Va,if_neg (by rw [hq];decide)]
  exact zg
 ·rw [hq] at hw
  rw [Va,if_pos hq]
  by_cases hb:yU st = true
  ·rw [if_pos hb] at gc ⊢
   exact zg
  ·rw [if_neg hb] at gc ⊢
   exact zg
theorem aqf {rs:List Uc} {s:St} {cs cs2:List V} (a:Nat) (h:vX s rs = some [.ptr a 0]) (ho:s.o a = some (.box true cs)) (hc:QE s.o [a] none cs cs2):wu 0 rs (.ptr 0 0) [.box true cs2] s :=
 Wr rs _ _ h ⟨[a],none,by simp [aih,conv],⟨⟨_,ho,fun h=>h,hc⟩,trivial⟩,by simp,rfl⟩
theorem anH:(vM [97,108,108]).1 = [1,2,3,4,5,6,7,8,9,10,11,12,13,14,15,16]:=by decide +kernel
def WA:=qd Proofs.Tryz.f36 []
def Wg (Γ:Env) (f:Nat):Prop:=∀ (name:List UInt8) (st:List Qv),EvR Γ f [V.str name,.sl 6 (st.map Qv.v)] ((drC (agt name) st))
theorem aa8 {Γ:Env} {f:Nat} (h:Has Γ.P f 17 WA.1.1.ac WA.1.2) (z0:WF Γ 93):Wg Γ f:=by
 intro name st
 refine adg h (by simp) (JW _ _) fun C hC hm=>?_
 subst hC
 simp only [WA,qd,DC.ac]
 have hs:=(z0 [97,108,108] (by decide)).b
 rw [anH] at hs
 simp only [drC,agt]
 refine zgo ?_;repeat' first|exact zt|apply zan|intro hc
 all_goals (refine aqf _ rfl rfl ?_;simp [QE,conv,V.int,V.str,V.bool];done)
def aom (e:QM):V:=if e.least≤e.most then .tup [e.v,V.int 0,V.int 0] else vn 0 19
theorem aiS (e:QM):(aom e).closed:=by
 unfold aom;split
 ·simp only [QM.v,QM.cells,V.closed,Qa,and_self]
 ·exact VW _ _
def JZ:=qd Proofs.Tryz.f41 [zhn 11]
def JQ (Γ:Env) (f:Nat):Prop:=∀ (e:QM) (st:List Qv),EvD Γ f [] (drC e st) (aom e) (drC e st)
theorem qR {Γ:Env} {f:Nat} (h:Has Γ.P f 21 JZ.1.1.ac JZ.1.2) :JQ Γ f:=by
 intro e st
 refine Q5 h zsi (aiS _) zc3 zc3 fun C hC hm=>?_
 subst hC
 simp only [JZ,qd,DC.ac]
 by_cases hle:e.least≤e.most
 ·have e1:decide (e.least > e.most) = false:=by simp;omega
  rw [aom,if_pos hle]
  simp only [drC,QM.v,QM.cells]
  (have zx:=e1);refine zgo ?_;repeat' first|exact zt|apply zan|intro hc
  all_goals (refine QG _ rfl rfl zcd ?_;simp only [go_sem];done)
 ·have e1:decide (e.least > e.most) = true:=by simp;omega
  rw [aom,if_neg hle]
  simp only [drC,vn,adF,QM.v,QM.cells,zl]
  (have zx:=e1);refine zgo ?_;repeat' first|exact zt|apply zan|intro hc
  all_goals (refine QG _ rfl rfl zcd ?_;simp only [go_sem];done)
def aeq:List V:=[V.str [108,101,97,115,116],V.str [109,111,115,116],V.str [115,117,105,116,101,115],V.str [111,114,100,101,114],V.str [107,101,121,115],V.str [97,110,99,104,111,114,115],V.str [104,97,115,104,101,115],V.str [102,97,108,108,98,97,99,107]]
theorem kS1:VR false [1] (V.str [109,111,115,116]) [V.str [108,101,97,115,116]] 0 = some none:=by decide
theorem kS2:VR false [1] (V.str [115,117,105,116,101,115]) [V.str [108,101,97,115,116],V.str [109,111,115,116]] 0 = some none:=by decide
theorem kS3:VR false [1] (V.str [111,114,100,101,114]) [V.str [108,101,97,115,116],V.str [109,111,115,116],V.str [115,117,105,116,101,115]] 0 = some none:=by decide
theorem kS4:VR false [1] (V.str [107,101,121,115]) [V.str [108,101,97,115,116],V.str [109,111,115,116],V.str [115,117,105,116,101,115],V.str [111,114,100,101,114]] 0 = some none:=by decide
theorem kS5:VR false [1] (V.str [97,110,99,104,111,114,115]) [V.str [108,101,97,115,116],V.str [109,111,115,116],V.str [115,117,105,116,101,115],V.str [111,114,100,101,114],V.str [107,101,121,115]] 0 = some none:=by decide
theorem kS6:VR false [1] (V.str [104,97,115,104,101,115]) [V.str [108,101,97,115,116],V.str [109,111,115,116],V.str [115,117,105,116,101,115],V.str [111,114,100,101,114],V.str [107,101,121,115],V.str [97,110,99,104,111,114,115]] 0 = some none:=by decide
theorem kS7:VR false [1] (V.str [102,97,108,108,98,97,99,107]) [V.str [108,101,97,115,116],V.str [109,111,115,116],V.str [115,117,105,116,101,115],V.str [111,114,100,101,114],V.str [107,101,121,115],V.str [97,110,99,104,111,114,115],V.str [104,97,115,104,101,115]] 0 = some none:=by decide
theorem acY (s:List UInt8):∀ (ks:List (List UInt8)) (i:Nat),s ∉ ks→VR false [1] (V.str s) (ks.map V.str) i = some none
 | [],i,_=>rfl
 | k :: r,i,hn=>by
   have h:wD false [1] (V.str s) (V.str k) = some false:=by
    have:¬ s = k:=fun e=>hn (by simp [e])
    have hb:((⟨s.toArray⟩:ByteArray) == ⟨k.toArray⟩) = false:=by
     show (s.toArray == k.toArray) = false
     simpa using this
    simp [wD,JU,V.str,hb]
   rw [zm,VR,h]
   exact acY s r (i + 1) fun hm=>hn (kx _ hm)
def J6:=qd Proofs.Tryz.f37 []
def J0 (Γ:Env) (f:Nat):Prop:=(∃ g1 g2 g3 g4 g5 g6 g7 g8:Nat,Jj Γ g1∧Ji Γ g2∧Jv Γ g3∧Jh Γ g4∧Jw Γ g5∧Jg Γ g6∧Jf Γ g7∧Je Γ g8∧∀ cs:List V,Qa cs→EvJ Γ f cs aeq [.clo (.n g1) [.ptr 2 0],.clo (.n g2) [.ptr 2 0],.clo (.m g3) [.ptr 0 0],.clo (.n g4) [.ptr 2 0],.clo (.m g5) [.ptr 0 0],.clo (.n g6) [.ptr 2 0],.clo (.n g7) [.ptr 2 0],.clo (.n g8) [.ptr 2 0]] 0)
attribute [local go_sem] kS1 kS2 kS3 kS4 kS5 kS6 kS7 in
theorem jB {Γ:Env} {f:Nat} (h:Has Γ.P f 15 J6.1.1.ac J6.1.2) (z0:Jj Γ 94) (z1:Ji Γ 96) (z2:Jv Γ 97) (z3:Jh Γ 98) (z4:Jw Γ 100) (z5:Jg Γ 101) (z6:Jf Γ 104) (z7:Je Γ 106):J0 Γ f:=by
 refine ⟨94,96,97,98,100,101,104,106,z0,z1,z2,z3,z4,z5,z6,z7,fun cs hcs=>?_⟩
 refine aiZ h (by simp) hcs fun C hC hm=>?_
 subst hC
 simp only [J6,qd,DC.ac]
 refine zgo ?_;repeat' first|exact zt|apply zan|intro hc
 all_goals (refine arn 2001 1 rfl rfl rfl rfl hcs ?_ rfl;simp [QE,conv])
theorem ao2 {a b:Nat}:sig [a] b 0 = a:=rfl
theorem ao1 {a b:Nat}:sig [a] b 2 = b + 1:=rfl
def JR (g1 g2 g3 g4 g5 g6 g7 g8:Nat):List V:=[.clo (.n g1) [.ptr 3 0],.clo (.n g2) [.ptr 3 0],.clo (.m g3) [.ptr 1 0],.clo (.n g4) [.ptr 3 0],.clo (.m g5) [.ptr 1 0],.clo (.n g6) [.ptr 3 0],.clo (.n g7) [.ptr 3 0],.clo (.n g8) [.ptr 3 0]]
theorem vF {Γ:Env} {g1 g2 g3 g4 g5 g6 g7 g8:Nat} (c1:Jj Γ g1) (c2:Ji Γ g2) (c3:Jv Γ g3) (c4:Jh Γ g4) (c5:Jw Γ g5) (c6:Jg Γ g6) (c7:Jf Γ g7) (c8:Je Γ g8)
  {w:List UInt8} (hw:w∈Ym) {l:List (List UInt8)} (e:QM) {st:List Qv} (hl:l.length < 2 ^ 28) (hs:∀ s∈l,s.length < 2 ^ 30) (hk:st.length < 2 ^ 60) (hst:∀ x∈st,x.Sm) :
  ∃ i,VR false [1] (V.str w) aeq 0 = some (some i)∧((∃ g,(JR g1 g2 g3 g4 g5 g6 g7 g8)[i]? = some (.clo (.n g) [.ptr 3 0])∧EvH Γ g (.sl 1 (l.map V.str)) (drC e st) (V.bool (YO st w l e).1) (drC (YO st w l e).2 st)) ∨
   (∃ g,(JR g1 g2 g3 g4 g5 g6 g7 g8)[i]? = some (.clo (.m g) [.ptr 1 0])∧EvD Γ g [.sl 1 (l.map V.str)] (drC e st) (V.bool (YO st w l e).1) (drC (YO st w l e).2 st))):=by
 simp only [Ym,zp,zy,or_false] at hw
 unfold YO
 rcases hw with rfl|rfl|rfl|rfl|rfl|rfl|rfl|rfl
 ·rw [if_pos rfl];exact ⟨0,by decide,.inl ⟨g1,rfl,c1 l e st hs⟩⟩
 ·rw [if_neg (by decide),if_pos rfl];exact ⟨1,by decide,.inl ⟨g2,rfl,c2 l e st hs⟩⟩
 ·rw [if_neg (by decide),if_neg (by decide),if_pos rfl];exact ⟨2,by decide,.inr ⟨g3,rfl,c3 l e st hs⟩⟩
 ·rw [if_neg (by decide),if_neg (by decide),if_neg (by decide),if_pos rfl];exact ⟨3,by decide,.inl ⟨g4,rfl,c4 l e st⟩⟩
 ·rw [if_neg (by decide),if_neg (by decide),if_neg (by decide),if_neg (by decide),if_pos rfl];exact ⟨4,by decide,.inr ⟨g5,rfl,c5 l e st hl hk hst⟩⟩
 ·rw [if_neg (by decide),if_neg (by decide),if_neg (by decide),if_neg (by decide),if_neg (by decide),if_pos rfl];exact ⟨5,by decide,.inl ⟨g6,rfl,c6 l e st hs (by omega)⟩⟩
 ·rw [if_neg (by decide),if_neg (by decide),if_neg (by decide),if_neg (by decide),if_neg (by decide),if_neg (by decide),if_pos rfl];exact ⟨6,by decide,.inl ⟨g7,rfl,c7 l e st (by omega)⟩⟩
 ·rw [if_neg (by decide),if_neg (by decide),if_neg (by decide),if_neg (by decide),if_neg (by decide),if_neg (by decide),if_neg (by decide)];exact ⟨7,by decide,.inl ⟨g8,rfl,c8 l e st⟩⟩
theorem amK (e:QM):∃ e' n k,aom e = .tup [QM.v e',V.int n,V.int k]:=by
 unfold aom;split<;>exact ⟨_,_,_,rfl⟩
def fmO (e:QM) (st:List Qv) (ws:List V):List (Nat×Ob):=[(0,.box true XN),(1,.box true (drC e st)),(2,.map aeq ws 0),(3,.box true [.ptr 1 0])]
def J7:=qd Proofs.Tryz.f16 [⟨fun _=>false,[2],.one 0 (.one 1 (.or 2 (.one 3 (.one 4 (.one 5 (.done)))) (.or 3 (.one 2 (.one 4 (.one 5 (.done)))) (.done))))⟩,⟨fun y=>!decide (y = 1) && !decide (y = 3),[14],zoc 0 17⟩,⟨fun _=>false,[2],.one 0 (.one 1 (.or 2 (.one 3 (.one 4 (.one 5 (.done)))) (.or 3 (.one 2 (.one 4 (.one 5 (.done)))) (.done))))⟩]
def YR (Γ:Env) (f:Nat):Prop:=∀ (l:List WO) (name:List UInt8) (st:List Qv) (hn:name.length < 2 ^ 30) (hl:l.length < 2 ^ 27) (hv:∀ x∈l,x.val.length < 2 ^ 27) (hk:st.length < 2 ^ 60) (hs:∀ x∈st,x.Sm),EvC Γ f [.sl 4 (l.map WO.v),V.str name,.sl 6 (st.map Qv.v)] (akP l name st)
attribute [local go_sem] List.headD_cons List.length_nil WO.cells WO.v V.ren drC fmO Yo KS ao2 ao1 XN in
theorem jC {Γ:Env} {f:Nat} (h:Has Γ.P f 100 J7.1.1.ac J7.1.2) (z0:Wf Γ 35) (z1:Wg Γ 36) (z2:J0 Γ 37) (z3:Yq Γ 38) (z4:QN Γ 39) (z5:VI Γ 40) (z6:JQ Γ 41):YR Γ f:=by
 intro l name st hn hl hv hk hs
 refine Qn h zsi (ahj _ _ _) fun C hC hm=>?_
 subst hC
 simp only [J7,qd,DC.ac]
 have hm:C.m = 0:=by simpa using hm
 have hlm:(l.map WO.v).length = l.length:=zh _
 have hb:=(z0 name st hn hk hs).b
 by_cases h0:Va name st≠0
 ·rw [akP,if_pos h0]
  generalize Va name st = er at *
  have e0:(er != 0) = true:=by simpa using h0
  simp only [vn,adF,QM.v,QM.cells,zl]
  (have zx:=e0);exact zg
 have h0:Va name st = 0:=by simpa using h0
 rw [h0] at hb
 (have zx:=hlm);refine zgo ?_;repeat' first|exact zt|apply zan|intro hc
 refine JD (ι:=Nat) (fun k=>k≤l.length) (fun k=>stL [(1,V.str name),(2,.sl 6 (st.map Qv.v)),(6,.ptr 0 0),(10,.hd 1 0 (aic (l.take k) name).length),(27,.sl 4 (l.map WO.v)),(28,V.int l.length),(29,V.int k)] [.box true XN,.buf true 4 ((aic (l.take k) name).map WO.v)]) (fun k=>l.length - k) 0 (zw _) (by rw [show aic (l.take 0) name = [] from rfl];exact xI [0,9000] (by rw [hm];rfl) ⟨⟨_,rfl,fun h=>h,Yh _ _ _ _ _ _ _ _ _⟩,⟨_,rfl,fun h=>h,rfl,rfl⟩,trivial⟩) fun k hk2 K' hL=>?_
 rcases hd:l.drop k with _|⟨x,r⟩
 rotate_left
 ·obtain ⟨hk',hget,hr⟩:=Qe hd
  have hwi:=Qd (k:=k) (by omega)
  have e1:decide ((k:Int) < ((l.length:Nat):Int)) = true:=by simp;omega
  have hot:=alY (name:=name) hget
  have hol:=alZ (l.take k) name
  have hlt:(l.take k).length≤k:=by simp;omega
  simp only [stL,XN]
  rcases hx:x.sec == name with _|_
  ·rw [hx,if_neg (by decide)] at hot
   (have zx:=za e1 (za hlm (za hwi (za hget hx))));refine zgo ?_;repeat' first|exact zt|apply zan|intro hc
   all_goals exact hL _ (k + 1) (by omega) (by omega) (by rw [hot];exact xI [0,1] (by rw [hm];rfl) ⟨⟨_,rfl,fun h=>h,Yh _ _ _ _ _ _ _ _ _⟩,⟨_,rfl,fun h=>h,rfl,rfl⟩,trivial⟩)
  ·rw [hx,if_pos rfl] at hot
   generalize aic (l.take k) name = own at *
   have hap:List.take own.length (List.map WO.v own)++[V.agg [V.str x.sec,V.str x.name,V.str x.val,V.int x.line]] = (own++[x]).map WO.v:=by
    rw [zb (by simp),zG];rfl
   have hln:own.length + 1 = (own++[x]).length:=by simp
   (have zx:=za e1 (za hlm (za hwi (za hget hx))));refine zgo ?_;repeat' first|exact zt|apply zan|intro hc
   rw [hap,hln]
   all_goals exact hL _ (k + 1) (by omega) (by omega) (by rw [hot];exact xI [0,12002] (by rw [hm];rfl) ⟨⟨_,rfl,fun h=>h,Yh _ _ _ _ _ _ _ _ _⟩,⟨_,rfl,fun h=>h,rfl,rfl⟩,trivial⟩)
 have hkl:=Qj hd
 have e1:decide ((k:Int) < ((l.length:Nat):Int)) = false:=by simp;omega
 rw [zb hkl]
 have hol:=alZ l name
 have hmem:∀ x∈aic l name,x.val.length < 2 ^ 27:=fun x hx=>hv x (List.mem_filter.1 hx).1
 rw [akP,if_neg (by rw [h0];simp)]
 generalize aic l name = own at *
 clear hL
 refine ana (s1:=stL [(1,V.str name),(2,.sl 6 (st.map Qv.v)),(6,.ptr 0 0),(10,.sl 4 (own.map WO.v)),(28,V.int l.length),(29,V.int k)] [.box true XN]) (xI [0] (by rw [hm];rfl) ⟨⟨_,rfl,fun h=>h,Yh _ _ _ _ _ _ _ _ _⟩,trivial⟩) ?_
 have hlo:(own.map WO.v).length = own.length:=zh _
 simp only [stL,XN]
 by_cases hq:own = []
 ·subst hq
  rw [if_pos rfl]
  simp only [vn,adF,QM.v,QM.cells,zl]
  (have zx:=e1);exact zg
 rw [if_neg hq]
 have e2:(((own.length:Nat):Int) == 0) = false:=by
  have:=List.length_pos_iff.2 hq
  simp;omega
 obtain ⟨g1,g2,g3,g4,g5,g6,g7,g8,c1,c2,c3,c4,c5,c6,c7,c8,hJ⟩:=z2
 have hbe:=z1 name st
 generalize agt name = e0 at *
 have hJ0:=hJ _ (JW e0 st)
 simp only [drC] at hbe hJ0
 (have zx:=za e1 (za e2 hlo));refine zgo ?_;repeat' first|exact zt|apply zan|intro hc
 refine Qz (ι:=Nat) (fun k=>k≤own.length∧(own.take k).find? af6 = none) (fun k=>Yo [(6,.ptr 0 0),(10,.sl 4 (own.map WO.v)),(13,.ptr 1 0),(14,.mp 2),(51,.sl 4 (own.map WO.v)),(52,V.int own.length),(53,V.int k)] (fmO e0 st (JR g1 g2 g3 g4 g5 g6 g7 g8)) 4) (fun k=>own.length - k) 0 ⟨zw _,rfl⟩ (Qp [(1,6001),(2,9001),(3,9002)]) (JS [(1,6001),(2,9001),(3,9002)] (by simp only [go_sem,zwl,fmO,XN,drC,JR]<;>exact zcc) (by simp only [go_sem,zwl,fmO,XN,drC,JR]<;>exact zcc) (by simp [fmO,Qp]) (by simp [fmO];omega) (by omega)) fun k hk3 K2 hL2=>?_
 obtain ⟨hk3,hno⟩:=hk3
 rcases hdo:own.drop k with _|⟨x,r⟩
 rotate_left
 ·obtain ⟨hk',hget,hr⟩:=Qe hdo
  have hwi:=Qd (k:=k) (by omega)
  have e3:decide ((k:Int) < ((own.length:Nat):Int)) = true:=by simp;omega
  obtain ⟨q1,q2⟩:=aoF hdo hno
  by_cases hx:x.name∈Ym
  ·obtain ⟨i,hnm,hcl⟩:=vF c1 c2 c3 c4 c5 c6 c7 c8 hx (l:=[]) e0 (by simp) (by simp) hk hs
   obtain ⟨fk,cc,hcl⟩:∃ fk cc,(JR g1 g2 g3 g4 g5 g6 g7 g8)[i]? = some (.clo fk cc):=by
    rcases hcl with ⟨g,h,_⟩|⟨g,h,_⟩<;>exact ⟨_,_,h⟩
   (have zx:=za e3 (za hlo (za hwi (za hget (za hnm hcl)))));refine zgo ?_;repeat' first|exact zt|apply zan|intro hc
   all_goals exact hL2 _ (k + 1) (Qp []) ⟨by omega,q1 hx⟩ (by omega) (JS [] (by simp only [go_sem,zwl,fmO,XN,JR]<;>exact zcc) (by simp only [go_sem,zwl,fmO,XN,JR,drC]<;>exact zcc) (by simp [fmO,Qp]) (by simp [fmO]) (by omega))
  ·have hnm:=acY x.name Ym 0 hx
   rw [show Ym.map V.str = aeq from rfl] at hnm
   rw [q2 hx]
   simp only [vn,adF,QM.v,QM.cells,zl]
   (have zx:=za e3 (za hlo (za hwi (za hget hnm))));exact zg
 have hkl:=Qj hdo
 have e3:decide ((k:Int) < ((own.length:Nat):Int)) = false:=by simp;omega
 rw [zb hkl] at hno
 have hwd:=aoE hno
 rw [hno]
 simp only
 clear hL2
 generalize hG:jR st (ag6 own) e0 = G
 (have zx:=za e3 hlo);refine zgo ?_;repeat' first|exact zt|apply zan|intro hc
 refine Qz (ι:=Nat×QM) (fun q=>q.1≤own.length∧jR st (ag6 (own.drop q.1)) q.2 = G) (fun q=>Yo [(6,.ptr 0 0),(10,.sl 4 (own.map WO.v)),(13,.ptr 1 0),(14,.mp 2),(66,.sl 4 (own.map WO.v)),(67,V.int own.length),(68,V.int q.1)] (fmO q.2 st (JR g1 g2 g3 g4 g5 g6 g7 g8)) 4) (fun q=>own.length - q.1) (0,e0) ⟨zw _,hG⟩ (Qp []) (JS [] (by simp only [go_sem,zwl,fmO,XN,drC,JR]<;>exact zcc) (by simp only [go_sem,zwl,fmO,XN,drC,JR]<;>exact zcc) (by simp [fmO,Qp]) (by simp [fmO]) (by omega)) fun q hq3 K3 hL3=>?_
 clear e3 hkl hdo hk3
 obtain ⟨j,e⟩:=q
 obtain ⟨hj,hrun⟩:=hq3
 simp only at hj hrun
 rcases hdj:own.drop j with _|⟨x,r⟩
 ·have hjl:=Qj hdj
  have e4:decide ((j:Int) < ((own.length:Nat):Int)) = false:=by simp;omega
  rw [hdj,ag6,jR] at hrun
  subst hrun
  have hfi:=z6 e st
  rw [show wv (none,e) = aom e from rfl]
  obtain ⟨e',n',k',hfe⟩:=amK e
  rw [hfe] at hfi ⊢
  simp only [QM.v,QM.cells,drC] at hfi ⊢
  (have zx:=e4);exact zg
 obtain ⟨hj',hgj,hrj⟩:=Qe hdj
 have hwj:=Qd (k:=j) (by omega)
 have e4:decide ((j:Int) < ((own.length:Nat):Int)) = true:=by simp;omega
 have hxm:=zj hgj
 have hvx:=hmem x hxm
 have hcf:=(z4 (own.drop (j + 1)) 38 [.ro x.cells 0] (fun y=>y.name == x.name) (fun y _=>z3 y x) (by simp [V.closed,Qa]) (by simp;omega)).b
 have hsl:List.take (own.length - (j + 1)) (List.drop (j + 1) (List.map WO.v own)) = (own.drop (j + 1)).map WO.v:=by
  rw [zb (by simp),List.map_drop]
 simp only [WO.cells] at hcf
 rw [hdj,ag6] at hrun
 rw [hrj] at hcf hsl
 rcases hag:r.any (fun y=>y.name == x.name) with _|_
 rotate_left
 ·rw [hag,if_pos rfl] at hrun
  rw [hag] at hcf
  (have zx:=za e4 (za hwj (za hlo (za hsl hgj))));refine zgo ?_;repeat' first|exact zt|apply zan|intro hc
  all_goals exact hL3 _ (j + 1,e) (Qp []) ⟨by simp only;omega,by rw [hrj];exact hrun⟩ (by simp only;omega) (JS [] (by simp only [go_sem,zwl,fmO,XN,JR]<;>exact zcc) (by simp only [go_sem,zwl,fmO,XN,JR,drC]<;>exact zcc) (by simp [fmO,Qp]) (by simp [fmO]) (by omega))
 rw [hag,if_neg (by decide),jR] at hrun
 rw [hag] at hcf
 have sm:=ari hvx
 have hva:=(z5 x (by omega)).b
 obtain ⟨i,hnm,hcl⟩:=vF c1 c2 c3 c4 c5 c6 c7 c8 (hwd x hxm) (l:=xq x) e sm.hl sm.hs hk hs
 change (if (YO st x.name (xq x) e).1 = true then jR st (ag6 r) (YO st x.name (xq x) e).2 else (some x.line,e)) = G at hrun
 have hvl:((xq x).map V.str).length = (xq x).length:=zh _
 have hvt:List.take (xq x).length ((xq x).map V.str) = (xq x).map V.str:=zb (by simp)
 obtain ⟨vs,hvs⟩:∃ vs,vs = xq x:=⟨_,rfl⟩
 rw [← hvs] at hva hvl hvt hrun hcl
 clear sm hvs
 obtain ⟨ap,hap⟩:∃ ap,ap = YO st x.name vs e:=⟨_,rfl⟩
 rw [← hap] at hrun hcl
 clear hap
 obtain ⟨b,e'⟩:=ap
 simp only [WO.v,WO.cells] at hva
 simp only at hcl hrun
 rcases b with _|_
 ·rw [if_neg (by simp)] at hrun
  subst hrun
  simp only [wv,vn,adF,QM.v,QM.cells,zl]
  rcases hcl with ⟨g,hcl,hH⟩|⟨g,hcl,hH⟩
  ·(have zx:=za e4 (za hwj (za hlo (za hsl (za hgj (za hnm (za hcl (za hvl hvt))))))));exact zg
  ·(have zx:=za e4 (za hwj (za hlo (za hsl (za hgj (za hnm (za hcl (za hvl hvt))))))));exact zg
 ·rw [if_pos rfl] at hrun
  rcases hcl with ⟨g,hcl,hH⟩|⟨g,hcl,hH⟩
  ·(have zx:=za e4 (za hwj (za hlo (za hsl (za hgj (za hnm (za hcl (za hvl hvt))))))));refine zgo ?_;repeat' first|exact zt|apply zan|intro hc
   all_goals exact hL3 _ (j + 1,e') (Qp []) ⟨by simp only;omega,by rw [hrj];exact hrun⟩ (by simp only;omega) (JS [] (by simp only [go_sem,zwl,fmO,XN,JR]<;>exact zcc) (by simp only [go_sem,zwl,fmO,XN,JR,drC]<;>exact zcc) (by simp [fmO,Qp]) (by simp [fmO]) (by omega))
  ·(have zx:=za e4 (za hwj (za hlo (za hsl (za hgj (za hnm (za hcl (za hvl hvt))))))));refine zgo ?_;repeat' first|exact zt|apply zan|intro hc
   all_goals exact hL3 _ (j + 1,e') (Qp []) ⟨by simp only;omega,by rw [hrj];exact hrun⟩ (by simp only;omega) (JS [] (by simp only [go_sem,zwl,fmO,XN,JR]<;>exact zcc) (by simp only [go_sem,zwl,fmO,XN,JR,drC]<;>exact zcc) (by simp [fmO,Qp]) (by simp [fmO]) (by omega))
section
variable {C:Ctx} {nt:Nat} {s:St} {K:St→Prop} {E:Nat→St→Prop} {R:St→Prop}
end
theorem alH {l:List Int} {k:Nat} {a:Int}:(adH l k a).1.natAbs≤100000:=by
 unfold adH
 split
 ·exact zw _
 ·rename_i h
  refine qN h ?_ ?_
  ·unfold wS;(repeat' split)<;>simp
  ·unfold wS;(repeat' split)<;>simp
theorem ajF {l:List Int} {k:Nat}:(amq l k).1.1.natAbs≤100000∧(amq l k).1.2.natAbs≤100000:=⟨qN (by simp) (by simp) (by decide),alH⟩
theorem am0 {l:List Int} {k:Nat} {nm:List UInt8} {a b id:Int} (hk:k≤l.length):(yZ l k nm a b id).2≤l.length:=by
 have k1:=qe (l:=l) (k:=k) (xs:=[1,0,2]) hk
 have k2:=QS (l:=l) (n:=2) k1
 have:∀ (m i d:Nat) (iss:List UInt8) (sg:Int) (ab:List Qk),d≤l.length→(WN l m i d iss sg ab).2≤l.length:=by
  intro m
  induction m with
  | zero=>intro i d iss sg ab h;exact h
  | succ m ih=>intro i d iss sg ab h;rw [WN];exact ih _ _ _ _ _ (acn h)
 simp only [yZ]
 exact acn (this _ _ _ _ _ _ k2)
theorem anG {c:Qk} {key:Int} (h:c.T):(adI c key).Sm:=by
 have l1:=h.l1
 have l2:=h.l2
 have l3:=h.l3
 unfold adI
 split
 ·exact ⟨by show c.issuer.length < _;omega,by show c.subject.length < _;omega,by show c.names.length < _;omega,fun x hx=>by have:=h.l4 x hx;omega⟩
 ·exact ⟨by simp [agu],by simp [agu],by simp [agu],fun x hx=>by simp [agu] at hx⟩
theorem aj0 {l:List Int} {k:Nat} {iss sub:List UInt8} {a b id sg:Int} {au:Bool} (hk:k≤l.length) (h1:iss.length≤900) (h2:sub.length≤900) (ha:I60 a) (hb:I60 b) (hi:I60 id):(aat l k iss sub a b id sg au).1.Sm:=by
 refine anG (ai5 h1 h2 ha hb hi ?_ ?_ ?_ ?_ ?_)
 ·have:=Q4 (l:=l) (k:=k) (n:=1000) (by omega) (by omega)
  show (QR l k 1000).1.natAbs≤_
  omega
 ·exact qN (by simp) (by simp) (by decide)
 ·exact qN (by simp) (by simp) (by decide)
 ·exact qN (by simp) (by simp) (by decide)
 ·cases au
  ·exact zw _
  ·exact qN (by simp) (by simp) (by decide)
theorem ae0 {l:List Int}:∀ (m i k:Nat) (iss:List UInt8) (sg:Int) (ab:List Qk),k≤l.length→iss.length≤900→i + m≤3→(∀ c∈ab,c.Sm)→(∀ c∈(WN l m i k iss sg ab).1.1,c.Sm)∧(WN l m i k iss sg ab).1.2.1.length≤900∧(WN l m i k iss sg ab).2≤l.length∧(WN l m i k iss sg ab).1.1.length = ab.length + m
 | 0,i,k,iss,sg,ab,hk,hi,hm,h=>⟨h,hi,hk,rfl⟩
 | m + 1,i,k,iss,sg,ab,hk,hi,hm,h=>by
   have hs:=ajj i
   rw [WN]
   obtain ⟨g1,g2,g3,g4⟩:=ae0 (l:=l) m (i + 1) (aat l k iss (subj i) 5 2048 (11 + (i:Int)) sg true).2 (subj i) (11 + (i:Int)) ((aat l k iss (subj i) 5 2048 (11 + (i:Int)) sg true).1 :: ab) (acn hk) (by omega) (by omega) (fun c hc=>by
    rcases zp.1 hc with rfl|hc
    ·exact aj0 hk hi (by omega) (by unfold I60;omega) (by unfold I60;omega) (by unfold I60;omega)
    ·exact h c hc)
   exact ⟨g1,g2,g3,by rw [g4,List.length_cons];omega⟩
theorem am1 {l:List Int} {k:Nat} {nm:List UInt8} {a b id:Int} (hk:k≤l.length) (h2:nm.length≤900) (ha:I60 a) (hb:I60 b) (hi:I60 id):(∀ c∈(yZ l k nm a b id).1,c.Sm)∧(yZ l k nm a b id).1.length≤3:=by
 have k1:=qe (l:=l) (k:=k) (xs:=[1,0,2]) hk
 have m1:=aiD (l:=l) (k:=k) (xs:=[1,0,2]) (by simp) (by simp)
 have k2:=QS (l:=l) (n:=2) k1
 have hn:(ofD l k [1,0,2]).1.toNat≤2:=by simp only [zp,zy,or_false] at m1;omega
 obtain ⟨g1,g2,g3,g4⟩:=ae0 (l:=l) (ofD l k [1,0,2]).1.toNat 0 (QR l (ofD l k [1,0,2]).2 2).2 [114,111,111,116] (1 + (QR l (ofD l k [1,0,2]).2 2).1) [] k2 (by simp) (by omega) (by simp)
 simp only [yZ]
 refine ⟨fun c hc=>?_,by rw [List.length_cons,g4,List.length_nil];omega⟩
 rcases zp.1 hc with rfl|hc
 ·exact aj0 g3 g2 h2 ha hb hi
 ·exact g1 c hc
structure QM.D (e:QM):Prop where
 hn:e.name.length≤900
 hm:e.most.natAbs≤100000
 hs:e.suites.length≤20
 hi:e.idents.length≤5
 ha:e.anchors.length≤5
 hh:e.hashes.length≤5
 hx:∀ x∈e.idents,x.Sm
theorem QM.D.sm {e:QM} (h:e.D):e.Sm:=⟨by have:=h.hn;omega,by have:=h.hs;omega,by have:=h.hi;omega,h.hx,by have:=h.ha;omega,by have:=h.hh;omega⟩
theorem QM.D.se {e:QM} (h:e.D):e.SmE:=⟨by have:=h.hs;omega,by have:=h.ha;omega,by have:=h.hh;omega,by have:=h.hi;omega,fun x hx=>(h.hx x hx).hl,fun x hx c hc=>((h.hx x hx).hc c hc).h3⟩
theorem NR.len {a:List Int} (h:NR a):a.length≤16:=ape h.nd h.rg
end Av
end
