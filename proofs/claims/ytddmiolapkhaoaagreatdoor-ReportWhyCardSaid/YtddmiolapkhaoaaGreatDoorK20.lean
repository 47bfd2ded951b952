/- K20 -/
import Derived.Test.YtddmiolapkhaoaaGreatDoorK19
set_option linter.unusedVariables false
set_option linter.unusedSimpArgs false
section
set_option maxRecDepth 10000
set_option maxHeartbeats 4000000
namespace Av
open Go
attribute [local irreducible] AWp U3 abh acE awS awC ajc awQ ajv Jo jG aiB awR yv awB okR ad1 ris
def agL (af3 Yi yh:Nat):AC:=Qb [] (.reg [mc 0 (V.bool false)]) (Qb [1,2] (.reg [xo 6 (.call af3 [(.c (V.str [97,112,112])),(.c (V.int 3))]),cl 7 Yi [6],mv 5 7,ex 8 5 0,ex 9 5 1,mv 1 8,mv 2 9]) (Qb [1,2,4] (.reg [xo 11 (.build [vn0,vn0,vn0] []),xo 12 (.build [vi0,vi0,vi0] [(0,1,(.c (V.int 1)))]),cl 13 yh [11,12],mv 10 13,ex 14 10 0,ex 15 10 1,mv 3 14,mv 4 15]) (Qb [0] (.reg [mv 16 2,bc 17 .eql 16 (V.int 0),mv 18 17,mg 19 1 18 true,xg 20 (.bin .eql (.t 19) (.c (V.str [51,32,97,112,112,32,49,32,116,108,115,32,109,111,115,116,32,49,32,57,48,10]))) 18 true,xo 21 (.pick (.t 18) (.t 20) (.c (V.bool false))),mv 22 21,mg 23 4 22 true,xg 24 (.bin .eql (.t 23) (.c (V.int 2))) 22 true,xo 25 (.pick (.t 22) (.t 24) (.c (V.bool false))),mv 0 25]) .ret))) def eX:List Q0:=[.tmp 0]
def vY (Γ:Env) (f:Nat):Prop:=EvN Γ f [] (V.bool true)
theorem als {Γ:Env} {f af3 Yi yh:Nat} (h:Has Γ.P f 26 (agL af3 Yi yh) eX) (z0:ah0 Γ af3) (z1:VY Γ Yi) (z2:vO Γ yh):vY Γ f:=by
 refine Qc h zsi zcl zcl fun C hC hm=>?_
 subst hC
 unfold agL
 have hA:=(z0 [97,112,112] 3).b
 have hF:=(z1 ⟨3,[97,112,112],1,3,90,4,[116,108,115],0,0,1,[]⟩ ⟨by decide,by decide,by decide⟩ (fun _=>by decide +kernel)).b
 rw [show Yg ⟨3,[97,112,112],1,3,90,4,[116,108,115],0,0,1,[]⟩ = true by decide +kernel,show aei ⟨3,[97,112,112],1,3,90,4,[116,108,115],0,0,1,[]⟩ = [51,32,97,112,112,32,49,32,116,108,115,32,109,111,115,116,32,49,32,57,48]++[10] by decide +kernel] at hF
 simp only [cond_true,Qa.v,Qa.cells,List.cons_append,List.nil_append] at hA hF
 have hR:=z2.b
 exact zg
theorem ayo {l:List Qa} {gap day age:Int} {f:Qg} (hK:ahE l gap day age) (hh:Vh l gap day age f = true):apA l (aej l gap day age f)≠[]:=by
 have h0:aj5 l gap day age f (List.range l.length) = true:=by
  rw [aj5,adf,hh,anO hK.nm (Zt _) hK.g];rfl
 have hd:=aoP (h:=aj5 l gap day age f) (l.length + 1) (List.range l.length) h0
 have hlt:=aqg (l:=l) (gap:=gap) (day:=day) (age:=age) (f:=f)
 rw [← aej] at hd
 generalize aej l gap day age f = s at *
 rcases s with _|⟨i,r⟩
 ·exfalso
  rw [aj5,zo] at hd
  have hd:=hd.2
  rw [Vh,show Qx l [] = [] from rfl] at hd
  have:=aju [] gap
  rw [List.length_eq_zero_iff.1 (Nat.le_zero.1 this)] at hd
  cases hd
 ·have hi:=hlt i kL
  rw [apA,abz hi,zI,List.flatten_cons]
  exact fun h=>ars _ (List.append_eq_nil_iff.1 h).1
def rwS (x:List Qa) (g a day:Int) (f:Qg) (k:Nat):St:=Y1 [(2,.sc (.int .u8 g)),(3,.sc (.int .u8 a)),(5,.ptr 0 0),(10,.sl 11 (x.map Qa.v)),(11,V.int day),(35,.sl 11 (x.map Qa.v)),(36,V.int x.length),(37,V.int k)] [(0,.box true f.cells)] 1
def aaI (wA Ks aby Kr Ql jf xd yi:Nat):AC:=Qb [0,2,3,5] (.reg [xo 5 (.box true 8 (.t 1)),mc 8 (V.bool false)]) (Qb [0,2,3,5] (Qb [0,2,3,5,27] (.reg [mv 25 0,cl 26 wA [25],xo 27 (.un .not (.t 26))]) (.cond (.t 27) (Qb [8] (.reg [cl 28 Ks [],mv 8 28]) .ret) .skip)) (Qb [2,3,5,9] (.reg [mv 29 0,cl 30 aby [29],mv 9 30]) (Qb [2,3,5,9,10] (.reg [mv 31 9,xo 32 (.call Kr [(.t 31),(.c (V.int 8))]),mv 10 32]) (Qb [2,3,5,10,11] (.reg [mv 33 9,xo 34 (.call Ql [(.t 33),(.c (V.int 14))]),mv 11 34]) (Qb [2,3,5,10,11] (Qb [2,3,5,10,11,35,36,37] (.reg [mv 35 10,ln 36 35,mc 37 (V.int 0)]) (.block 0 (JG [2,3,5,10,11,35,36,37] (Qb [2,3,5,10,11,35,36,37,38] (.reg [bn 38 .lss 37 36]) (Qb [2,3,5,10,11,35,36,37] (.cond (.t 38) .skip (.exit 0)) (Qb [2,3,5,10,11,35,36,37] (.block 1 (Qb [2,3,5,10,11,13,35,36,37] (.reg [ia 39 11 35 37,xo 40 (.load true 11 (.t 39)),xo 13 (.alloc [.val vi0,.val vs0,.val vi0,.val vi0,.val vi0,.val vi0,.val vs0,.val vi0,.val vi0,.val vi0,.val vs0]),xs 11 13 40]) (Qb [2,3,5,10,11,13,14,35,36,37] (.reg [fa 41 6 13,ld 42 1 41,fa 43 5 13,ld 44 1 43,fa 45 7 13,xo 46 (.load true 2 (.t 45)),fa 47 9 13,ld 48 1 47,xo 49 (.build [vi0,vs0,vi0,vi0,vi0,vi0,vs0,vi0] [(1,1,(.t 42)),(2,1,(.t 44)),(3,2,(.t 46)),(5,1,(.t 48))]),xo 14 (.alloc [.val vi0,.val vs0,.val vi0,.val vi0,.val vi0,.val vi0,.val vs0,.val vi0]),xs 8 14 49]) (Qb [2,3,5,10,11,14,35,36,37] (Qb [2,3,5,10,11,14,35,36,37,52] (.reg [fa 50 5 13,ld 51 1 50,bc 52 .eql 51 (V.int 7)]) (.cond (.t 52) (.exit 1) .skip)) (Qb [2,3,5,10,11,14,15,16,35,36,37] (.reg [mv 54 10,mv 55 2,bc 56 .rem 55 (.sc (.int .u8 4)),xo 57 (.convI .i64 (.t 56)),mv 58 11,mv 59 3,bc 60 .rem 59 (.sc (.int .u8 20)),xo 61 (.convI .i64 (.t 60)),xo 62 (.load true 8 (.t 14)),cl 63 jf [54,57,58,61,62],mv 53 63,ex 64 53 0,ex 65 53 1,mv 15 64,mv 16 65]) (Qb [2,3,5,10,11,14,15,16,17,18,35,36,37] (.reg [mv 67 10,mv 68 2,bc 69 .rem 68 (.sc (.int .u8 4)),xo 70 (.convI .i64 (.t 69)),mv 71 11,mv 72 3,bc 73 .rem 72 (.sc (.int .u8 20)),xo 74 (.convI .i64 (.t 73)),xo 75 (.load true 8 (.t 14)),cl 76 xd [67,70,71,74,75],mv 66 76,ex 77 66 0,ex 78 66 1,mv 17 77,mv 18 78]) (Qb [2,3,5,10,11,15,16,17,18,19,20,35,36,37] (.reg [mv 80 10,mv 81 2,bc 82 .rem 81 (.sc (.int .u8 4)),xo 83 (.convI .i64 (.t 82)),mv 84 11,mv 85 3,bc 86 .rem 85 (.sc (.int .u8 20)),xo 87 (.convI .i64 (.t 86)),xo 88 (.load true 8 (.t 14)),cl 89 yi [80,83,84,87,88],mv 79 89,ex 90 79 0,ex 91 79 1,mv 19 90,mv 20 91]) (Qb [2,3,5,10,11,35,36,37,116] (.reg [mv 92 15,mv 93 17,bn 94 .neq 92 93,mv 95 94,mg 96 16 95 false,mg 97 18 95 false,xg 98 (.bin .neq (.t 96) (.t 97)) 95 false,xo 99 (.pick (.t 95) (.c (V.bool true)) (.t 98)),mv 100 99,mg 101 20 100 false,xg 102 (.bin .neq (.t 101) (.c (V.int 0))) 100 false,xo 103 (.pick (.t 100) (.c (V.bool true)) (.t 102)),mv 104 103,mg 105 16 104 false,xg 106 (.bin .eql (.t 105) (.c (V.int 0))) 104 false,mg 107 19 104 false,xg 108 (.eqb true (.t 106) (.t 107)) 104 false,xo 109 (.pick (.t 104) (.c (V.bool true)) (.t 108)),mv 110 109,mg 111 19 110 false,mg 112 111 110 false,mg 113 15 112 true,xg 114 (.bin .eql (.t 113) (.c (V.str []))) 112 true,xg 115 (.pick (.t 112) (.t 114) (.c (V.bool false))) 110 false,xo 116 (.pick (.t 110) (.c (V.bool true)) (.t 115))]) (.cond (.t 116) (Qb [8] (.reg [mc 8 (V.bool false)]) .ret) .skip))))))))) (.reg [bc 117 .add 37 (V.int 1),mv 37 117]))))))) (Qb [2,3,5,10,11,21,22] (.reg [mv 119 10,mv 120 2,xo 121 (.convI .i64 (.t 120)),mv 122 11,mv 123 3,xo 124 (.convI .i64 (.t 123)),xo 125 (.load true 8 (.t 5)),cl 126 jf [119,121,122,124,125],mv 118 126,ex 127 118 0,ex 128 118 1,mv 21 127,mv 22 128]) (Qb [21,22,23,24] (.reg [mv 130 10,mv 131 2,xo 132 (.convI .i64 (.t 131)),mv 133 11,mv 134 3,xo 135 (.convI .i64 (.t 134)),xo 136 (.load true 8 (.t 5)),cl 137 xd [130,132,133,135,136],mv 129 137,ex 138 129 0,ex 139 129 1,mv 23 138,mv 24 139]) (Qb [8] (.reg [mv 140 21,mv 141 23,bn 142 .eql 140 141,mv 143 142,mg 144 22 143 true,mg 145 24 143 true,xg 146 (.bin .eql (.t 144) (.t 145)) 143 true,xo 147 (.pick (.t 143) (.t 146) (.c (V.bool false))),mv 148 147,xg 149 (.call Ks []) 148 true,xo 150 (.pick (.t 148) (.t 149) (.c (V.bool false))),mv 8 150]) .ret)))))))) def eY:List Q0:=[.tmp 8]
def wZ (Γ:Env) (f:Nat):Prop:=∀ (l:List Int) (f0:Qg) (g a:Int) (g0:0≤g) (g1:g≤255) (a0:0≤a) (a1:a≤255),EvN Γ f [.sl 1 (l.map V.int),f0.v,.sc (.int .u8 g),.sc (.int .u8 a)] (V.bool true)
attribute [local go_sem] Vx Y1 u1 u2 in
theorem af9 {Γ:Env} {f wA Ks aby Kr Ql jf xd yi:Nat} (h:Has Γ.P f 151 (aaI wA Ks aby Kr Ql jf xd yi) eY) (z0:abT Γ wA) (z1:vY Γ Ks) (z2:adW Γ aby) (z3:jN Γ Kr) (z4:YI Γ Ql) (z5:abH Γ jf) (z6:adU Γ xd) (z7:vQ Γ yi):wZ Γ f:=by
 intro l f0 g a g0 g1 a0 a1
 refine Qc h zsi zcl zcl fun C hC hm=>?_
 subst hC
 unfold aaI
 have hm:C.m = 0:=by simpa using hm
 have aw:=(EvN.b z1)
 have gL:=z0 l
 by_cases hlen:l.length≤400
 rotate_left
 ·have e0:decide ((l.length:Int)≤400) = false:=by simp;omega
  rw [e0] at gL
  simp only [Qg.v,Qg.cells]
  (have zy0:=gL.b;have zx:=e0);refine zgo ?_;repeat' first|exact zt|apply zan|intro hc
  all_goals exact zr
 have e0:decide ((l.length:Int)≤400) = true:=by simp;omega
 rw [e0] at gL
 have n1:=z2 l
 have n2:=z3 l 0 8 hlen (zG _) (by decide)
 obtain ⟨fS,fN,fl,k2⟩:=auv (l:=l) (k:=0) (most:=8) (zG _) (by decide)
 generalize af1 l 0 8 = w at *
 obtain ⟨x,d1⟩:=w
 simp only at n2 fS fN fl k2
 have n3:=z4 l d1 14 hlen k2
 have r3:=Jf (l:=l) (k:=d1) (n:=14) (by omega) (by omega)
 generalize YA l d1 14 = w at *
 obtain ⟨day,d2⟩:=w
 simp only at n3 r3
 simp only [Vx,zI,zO] at n1 n2 n3
 have hxl:(x.map Qa.v).length = x.length:=zd _
 have m1:g.tmod 4 = g % 4:=ZU g0
 have m2:a.tmod 20 = a % 20:=ZU a0
 have u1:IntKind.u8.wrap (g % 4) = g % 4:=apz (by omega) (by omega)
 have u2:IntKind.u8.wrap (a % 20) = a % 20:=apz (by omega) (by omega)
 have v1:IntKind.i64.wrap (g % 4) = g % 4:=Q7 (by omega) (by omega)
 have v2:IntKind.i64.wrap (a % 20) = a % 20:=Q7 (by omega) (by omega)
 have v3:IntKind.i64.wrap g = g:=Q7 (by omega) (by omega)
 have v4:IntKind.i64.wrap a = a:=Q7 (by omega) (by omega)
 have hK1:ahE x (g % 4) day (a % 20):=⟨fN,by omega,by omega,by omega⟩
 have hK2:ahE x g day a:=⟨fN,by omega,by omega,by omega⟩
 obtain ⟨hl4,hq⟩:=W6 fN
 simp only [Qg.v,Qg.cells]
 (have zy0:=gL.b;have zx:=za e0 hxl);refine zgo ?_;repeat' first|exact zt|apply zan|intro hc
 refine QC (ι:=Nat) (fun k=>k≤x.length) (fun k=>rwS x g a day f0 k) (fun k=>x.length - k) 0 (zG _) (Qi [(0,0)]) (Qv [(0,0)] (by simp only [go_sem,zwl,rwS]<;>exact zcc) (by simp only [go_sem,zwl,rwS,Qg.cells]<;>exact zcc) (by simp [rwS,Qi]) (by simp [rwS];omega) (by omega)) fun k hk K' hL=>?_
 rcases hdr:x.drop k with _|⟨y,r⟩
 ·have hkl:=QY hdr
  have e1:decide ((k:Int) < (x.length:Int)) = false:=by simp;omega
  have q1:=(z5 x g day a f0 (by omega) fS hK2).b
  have q2:=(z6 x g day a f0 (by omega) fS hK2).b
  rw [avd] at q1 q2
  simp only [rwS,Qg.v,Qg.cells] at q1 q2 ⊢
  rcases hH:Vh x g day a f0 with _|_
  ·rw [hH,if_neg (by decide)] at q1 q2
   repeat' (first|(refine zsk ?_;intro K' hK)|refine zsp ?_|(refine zsc ?_ ?_<;>intro hc<;>first|exact znh|try simp only [znz] at hc)|simp (maxSteps:=1000000) only [go_sem,Y1,e1,v3,v4,hxl,beq_self_eq_true]|(refine hK _ ?_;clear hK K')|apply zan|(apply aa1;(focus exact rfl);(focus first|exact (z4 _ _ _ zsd zsd));(focus exact rfl);(focus exact rfl))|(apply aa0;(focus first|exact (z2 _)))|(apply QR;(focus first|exact aw|exact q1|exact q2|exact (z0 _).b|exact EvN.b z1))|exact zsq|fail)
   all_goals exact zr
  ·rw [hH,if_pos rfl] at q1 q2
   generalize apA x (aej x g day a f0) = T at *
   repeat' (first|(refine zsk ?_;intro K' hK)|refine zsp ?_|(refine zsc ?_ ?_<;>intro hc<;>first|exact znh|try simp only [znz] at hc)|simp (maxSteps:=1000000) only [go_sem,Y1,e1,v3,v4,hxl,beq_self_eq_true]|(refine hK _ ?_;clear hK K')|apply zan|(apply aa1;(focus exact rfl);(focus first|exact (z4 _ _ _ zsd zsd));(focus exact rfl);(focus exact rfl))|(apply aa0;(focus first|exact (z2 _)))|(apply QR;(focus first|exact aw|exact q1|exact q2|exact (z0 _).b|exact EvN.b z1))|exact zsq|fail)
   all_goals exact zr
 obtain ⟨hk',hget,hr⟩:=QJ hdr
 have hw:=Qq (k:=k) (by omega)
 have e1:decide ((k:Int) < (x.length:Int)) = true:=by simp;omega
 have vy:(x.map Qa.v)[k]? = some y.v:=by rw [zi,hget];rfl
 have q1:=(z5 x (g % 4) day (a % 20) (aoN y []) (by omega) fS hK1).b
 have q2:=(z6 x (g % 4) day (a % 20) (aoN y []) (by omega) fS hK1).b
 have q3:=(z7 x (g % 4) day (a % 20) (aoN y []) (by omega) fS hq).b
 rw [avd] at q1 q2
 rw [aov,if_pos (ad6.2 hK1)] at q3
 have hne:=ayo (f:=aoN y []) hK1
 have b0:((0:Int) != 0) = false:=by decide
 have b1:((0:Int) == 0) = true:=by decide
 have b4:((4:Int) == 0) = false:=by decide
 have b5:((4:Int) != 4) = false:=by decide
 by_cases h7:y.kind = 7
 ·have e7:(y.kind == 7) = true:=by simpa using h7
  simp only [rwS,Qg.v,Qg.cells,Qa.v,Qa.cells] at vy ⊢
  (have zx:=za e1 (za e7 (za hw (za vy hxl))));refine zgo ?_;repeat' first|exact zt|apply zan|intro hc
  all_goals exact hL _ (k + 1) (Qi []) (by omega) (by omega) (Qv [] (by simp only [go_sem,zwl,rwS]<;>exact zcc) (by simp only [go_sem,zwl,rwS,Qg.cells]<;>exact zcc) (by simp [rwS,Qi]) (by simp [rwS]) (by omega))
 have e7:(y.kind == 7) = false:=by simpa using h7
 rcases hH:Vh x (g % 4) day (a % 20) (aoN y []) with _|_
 ·rw [hH,if_neg (by decide)] at q1 q2
  rw [hH] at q3
  have c0:(([]:List UInt8) != []) = false:=by decide
  simp only [rwS,aoN,Qg.v,Qg.cells,Qa.v,Qa.cells] at q1 q2 q3 vy ⊢
  (have zx:=za e1 (za e7 (za b0 (za b1 (za b4 (za b5 (za c0 (za m1 (za m2 (za v1 (za v2 (za hw (za vy hxl)))))))))))));refine zgo ?_;repeat' first|exact zt|apply zan|intro hc
  all_goals exact hL _ (k + 1) (Qi []) (by omega) (by omega) (Qv [] (by simp only [go_sem,zwl,rwS]<;>exact zcc) (by simp only [go_sem,zwl,rwS,Qg.cells]<;>exact zcc) (by simp [rwS,Qi]) (by simp [rwS]) (by omega))
 ·have hne:=hne hH
  rw [hH,if_pos rfl] at q1 q2
  rw [hH] at q3
  generalize apA x (aej x (g % 4) day (a % 20) (aoN y [])) = T at *
  have c0:(T != T) = false:=bne_self_eq_false T
  have c1:(T == []) = false:=by simpa using hne
  simp only [rwS,aoN,Qg.v,Qg.cells,Qa.v,Qa.cells] at q1 q2 q3 vy ⊢
  (have zx:=za e1 (za e7 (za b0 (za b1 (za b4 (za b5 (za c0 (za c1 (za m1 (za m2 (za v1 (za v2 (za hw (za vy hxl))))))))))))));refine zgo ?_;repeat' first|exact zt|apply zan|intro hc
  all_goals exact hL _ (k + 1) (Qi []) (by omega) (by omega) (Qv [] (by simp only [go_sem,zwl,rwS]<;>exact zcc) (by simp only [go_sem,zwl,rwS,Qg.cells]<;>exact zcc) (by simp [rwS,Qi]) (by simp [rwS]) (by omega))
end Av
end
