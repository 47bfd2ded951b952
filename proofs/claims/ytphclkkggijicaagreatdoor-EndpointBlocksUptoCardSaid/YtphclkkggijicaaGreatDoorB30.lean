/- Spent buffers in regions whose order is open. -/
import Derived.Test.YtphclkkggijicaaGreatDoorB29
import Derived.Test.YtphclkkggijicaaGreatDoorB12
import Derived.Test.YtphclkkggijicaaGreatDoorB25
set_option linter.unusedVariables false
set_option linter.unusedSimpArgs false
noncomputable section
set_option maxRecDepth 10000
set_option maxHeartbeats 4000000
namespace Av
open Go
attribute [local irreducible] AWp W7 Kx jy awS awC vE awQ aay QP W6 vu awR Vn awB okR jx ris
def Yj:=qd Proofs.Tryz.f4 [⟨fun y=>!decide (y = 0) && !decide (y = 2) && !decide (y = 3),[1,6,9,13],.one 0 (.one 2 (.one 3 (.one 4 (.one 5 (.one 8 (.one 12 (.or 1 (.or 6 (.or 7 (.or 9 (.one 10 (.one 11 (.one 13 (.one 14 (.one 15 (.one 16 (.one 17 (.one 18 (.done))))))))) (.or 13 (.one 9 (.one 10 (.one 11 (.one 14 (.one 15 (.one 16 (.one 17 (.one 18 (.done))))))))) (.done))) (.or 9 (.one 7 (.one 10 (.one 11 (.one 13 (.one 14 (.one 15 (.one 16 (.one 17 (.one 18 (.done)))))))))) (.done))) (.or 9 (.one 6 (.one 7 (.one 10 (.one 11 (.one 13 (.one 14 (.one 15 (.one 16 (.one 17 (.one 18 (.done))))))))))) (.done))) (.or 6 (.or 1 (.or 7 (.or 9 (.one 10 (.one 11 (.one 13 (.one 14 (.one 15 (.one 16 (.one 17 (.one 18 (.done))))))))) (.or 13 (.one 9 (.one 10 (.one 11 (.one 14 (.one 15 (.one 16 (.one 17 (.one 18 (.done))))))))) (.done))) (.or 9 (.one 7 (.one 10 (.one 11 (.one 13 (.one 14 (.one 15 (.one 16 (.one 17 (.one 18 (.done)))))))))) (.done))) (.or 7 (.or 1 (.or 9 (.one 10 (.one 11 (.one 13 (.one 14 (.one 15 (.one 16 (.one 17 (.one 18 (.done))))))))) (.or 13 (.one 9 (.one 10 (.one 11 (.one 14 (.one 15 (.one 16 (.one 17 (.one 18 (.done))))))))) (.done))) (.or 9 (.one 10 (.one 11 (.or 1 (.one 13 (.one 14 (.one 15 (.one 16 (.one 17 (.one 18 (.done))))))) (.or 13 (.one 1 (.one 14 (.one 15 (.one 16 (.one 17 (.one 18 (.done))))))) (.done))))) (.or 13 (.or 1 (.one 9 (.one 10 (.one 11 (.one 14 (.one 15 (.one 16 (.one 17 (.one 18 (.done))))))))) (.or 9 (.one 1 (.one 10 (.one 11 (.one 14 (.one 15 (.one 16 (.one 17 (.one 18 (.done))))))))) (.done))) (.done)))) (.or 9 (.one 10 (.one 11 (.or 1 (.one 7 (.one 13 (.one 14 (.one 15 (.one 16 (.one 17 (.one 18 (.done)))))))) (.or 7 (.or 1 (.one 13 (.one 14 (.one 15 (.one 16 (.one 17 (.one 18 (.done))))))) (.or 13 (.one 1 (.one 14 (.one 15 (.one 16 (.one 17 (.one 18 (.done))))))) (.done))) (.done))))) (.done)))) (.or 9 (.one 10 (.one 11 (.or 1 (.one 6 (.one 7 (.one 13 (.one 14 (.one 15 (.one 16 (.one 17 (.one 18 (.done))))))))) (.or 6 (.or 1 (.one 7 (.one 13 (.one 14 (.one 15 (.one 16 (.one 17 (.one 18 (.done)))))))) (.or 7 (.or 1 (.one 13 (.one 14 (.one 15 (.one 16 (.one 17 (.one 18 (.done))))))) (.or 13 (.one 1 (.one 14 (.one 15 (.one 16 (.one 17 (.one 18 (.done))))))) (.done))) (.done))) (.done))))) (.done))))))))))⟩]
def VG (Γ:Env) (f:Nat):Prop:=∀ (l:List Int) (raw:List Qq) (name:List UInt8) (hz:vt raw < 2 ^ 27) (htop:∀ x∈raw,x.Top),EvN Γ f [.sl 1 (l.map V.int),.sl 4 (raw.map Qq.v),V.str name] (V.bool true)
attribute [local go_sem] QQ in
theorem j6 {Γ:Env} {f:Nat} (h:Has Γ.P f 138 Yj.1.1.ac Yj.1.2) (z0:yP Γ 6) (z1:yF Γ 21) (z2:ju Γ 7) (z3:wd Γ 8) (z4:yO Γ 9) (z5:QX Γ 10) (z6:Yy Γ 12) (z7:YQ Γ 15) (z8:yS Γ 11) (z9:KP Γ 14) (z10:Xi Γ 22) (z11:WQ Γ 23) (z12:yD Γ 18):VG Γ f:=by
 intro l raw name hz htop
 refine Qb h zsi zcl zcl fun C hC hm=>?_
 subst hC
 simp only [Yj,qd,DC.ac]
 have hm:C.m = 0:=by simpa using hm
 have ha:=z2.b
 have hli:=(z0 l).b
 have hsz:=(z1 raw 100 (by omega)).b
 have hrm:(raw.map Qq.v).length = raw.length:=zh _
 have hrl:=af4 raw
 generalize szL raw 100 0 = sz at *
 rcases hA:decide ((l.length:Int)≤400) with _|_
 ·rw [hA] at hli
  (have zx:=hrm);exact zg
 rw [hA] at hli
 rcases hB:decide (sz > 100) with _|_
 rotate_left
 ·(have zx:=za hrm hB);exact zg
 rcases hC2:decide ((name.length:Int) > 60) with _|_
 rotate_left
 ·(have zx:=za hrm (za hB hC2));exact zg
 have hl:l.length≤400:=by have:=zZ hA;omega
 have hnl:name.length≤60:=by have:=of_decide_eq_false hC2;omega
 have ro:=z3 l
 have hsd:=z4 l 0 [119,101,98] hl (zw _) (by decide)
 obtain ⟨st1,st2,st3⟩:=alE (l:=l) (k:=0) (nm:=[119,101,98]) (zw _) (by decide)
 generalize vL l 0 [119,101,98] = sd at *
 obtain ⟨st,d1⟩:=sd
 simp only at st1 st2 st3
 have n1:=z5 l d1 3 hl st3
 have k1:=QS (l:=l) (k:=d1) (n:=3) st3
 have r1:=Q4 (l:=l) (k:=d1) (n:=3) (by omega) (by omega)
 generalize QR l d1 3 = w1 at *
 obtain ⟨n,d2⟩:=w1
 simp only at k1 r1
 obtain ⟨c,rfl⟩:∃ c:Nat,n = (c:Int):=⟨n.toNat,by omega⟩
 have hw0:IntKind.i64.wrap (1 + (c:Int)) = ((1 + c:Nat):Int):=by rw [Jc (by omega) (by omega)];omega
 simp only [QQ] at ro hsd n1
 repeat' (first|(refine zsk ?_;intro K' hK)|(refine zrg ?_;intro K' hK)|refine zsp ?_|(refine zsc ?_ ?_<;>intro hc<;>first|exact znh|try simp only [znz] at hc)|simp (maxSteps:=1000000) only [go_sem,hrm,hB,hC2,hw0,QQ]|(refine hK _ ?_;clear hK K')|apply zan|(refine aqE hsd rfl rfl ?_)|(apply XH;(focus exact rfl);(focus first|exact n1|exact (z5 _ _ _ zsd zsd)|exact (z6 _ _ _ zsd zsd zsd zsd)|exact (z7 _ _ _ zsd zsd zsd zsd)|exact (z8 _ _ zsd zsd));(focus exact rfl);(focus exact rfl))|(apply Ye;(focus exact rfl);(focus exact zrd);(focus exact zrd);(focus first|exact n1|exact (z5 _ _ _ zsd zsd)|exact (z6 _ _ _ zsd zsd zsd zsd)|exact (z7 _ _ _ zsd zsd zsd zsd)|exact (z8 _ _ zsd zsd));(focus exact rfl);(focus exact rfl);(focus exact zrd))|(apply Vo;(focus first|exact ro|exact (z3 _)))|(apply Y5;(focus first|exact ro|exact (z3 _));(focus exact zrd))|((first|apply QC|apply Qr);(focus first|exact hli|exact hsz|exact (z0 _).b|exact (z1 _ _ zsd).b|exact EvN.b z2|exact (z12 _ _ _).b))|exact zsq|fail)
 generalize hG:anB l (1 + c) d2 [] = G
 have hGk:=alx (l:=l) (n:=1 + c) (k:=d2) (acc:=[]) k1 (fun x hx=>by simp at hx)
 rw [hG,List.length_nil] at hGk
 refine JD (ι:=Nat×Nat×List Qq) (fun q=>anB l q.1 q.2.1 q.2.2 = G∧q.2.1≤l.length∧q.2.2.length + q.1≤3) (fun q=>stL [(1,.sl 4 (raw.map Qq.v)),(2,V.str name),(7,.ptr 0 0),(8,.sl 6 (st.map Qv.v)),(9,.hd 1 0 q.2.2.length),(10,V.int q.1)] [.box true (QQ l q.2.1),.buf true 4 (q.2.2.map Qq.v)]) (fun q=>q.1) (1 + c,d2,[]) ⟨hG,k1,by simp;omega⟩ (xI [15000,20000] (by rw [hm];rfl) ⟨⟨_,rfl,fun h=>h,Qc _ _ _ _ (Qh _ _)⟩,⟨_,rfl,fun h=>h,rfl,rfl⟩,trivial⟩) fun q hq K' hL=>?_
 clear ro hsd n1 st3 k1 hG hli hw0
 obtain ⟨m,d,acc⟩:=q
 obtain ⟨q1,q2,q3⟩:=hq
 simp only at q1 q2 q3 hL ⊢
 rcases m with _|m
 rotate_left
 ·have e1:decide (((m + 1:Nat):Int) > 0) = true:=zu (by omega)
  have ew:IntKind.i64.wrap (((m + 1:Nat):Int) - 1) = (m:Int):=by rw [Jc (by omega) (by omega)];omega
  rw [anB] at q1
  have hto:agC l d = (let s:=XA l d wwd;let o:=QR l s.2 9;let n:=QR l o.2 30;let z:=QR l n.2 12;let c:=QR l z.2 7;let b:=if decide (o.1 > 0) = true then alC l c.1.toNat c.2 [] else ([],c.2);(.mk ([115,101,114,118,101,114] :: s.1 :: (if (z.1 == 12 - 1) = true then [[122]] else [])) (decide (o.1 > 0)) b.1 n.1,b.2)):=rfl
  have n1:=z6 l d wwd hl q2 (by decide) (by decide)
  have k1:=K5 (l:=l) (k:=d) (xs:=wwd) q2
  generalize XA l d wwd = w1 at *
  obtain ⟨sn,d3⟩:=w1
  simp only at k1 n1 hto
  have n2:=z5 l d3 9 hl k1
  have k2:=QS (l:=l) (k:=d3) (n:=9) k1
  generalize QR l d3 9 = w2 at *
  obtain ⟨on,d4⟩:=w2
  simp only at k2 hto
  have n3:=z5 l d4 30 hl k2
  have k3:=QS (l:=l) (k:=d4) (n:=30) k2
  generalize QR l d4 30 = w3 at *
  obtain ⟨ln,d5⟩:=w3
  simp only at k3 hto
  have n4:=z7 l d5 12 hl k3 (by omega) (by omega)
  have k4:=QS (l:=l) (k:=d5) (n:=12) k3
  generalize QR l d5 12 = w4 at *
  obtain ⟨zn,d6⟩:=w4
  simp only at k4 n4 hto
  have n5:=z5 l d6 7 hl k4
  have k5:=QS (l:=l) (k:=d6) (n:=7) k4
  have r5:=Q4 (l:=l) (k:=d6) (n:=7) (by omega) (by omega)
  generalize QR l d6 7 = w5 at *
  obtain ⟨cn,d7⟩:=w5
  simp only at k5 hto r5
  obtain ⟨ct,rfl⟩:∃ ct:Nat,cn = (ct:Int):=⟨cn.toNat,by omega⟩
  rw [Int.toNat_natCast] at hto
  generalize hop:decide (on > 0) = op at *
  generalize hH:(if op = true then alC l ct d7 [] else ([],d7)) = H at *
  simp only [QQ,wwd,zm,zl] at n1 n2 n3 n4 n5
  simp only [stL,QQ]
  rcases hzn:(zn == 12 - 1) with _|_
  all_goals
   rw [hzn] at n4 hto
   first|rw [if_neg (by decide)] at hto|rw [if_pos rfl] at hto
   generalize hws:(_ :: _ :: _:List (List UInt8)) = ws at hto
   (have zx:=za e1 (za ew hop));refine zgo ?_;repeat' first|exact zt|apply zan|intro hc
   refine JD (ι:=Nat×Nat×List Qq) (fun q=>(if op = true then alC l q.1 q.2.1 q.2.2 else (q.2.2,q.2.1)) = H∧q.2.1≤l.length∧q.2.2.length + q.1≤7) (fun q=>stL [(1,.sl 4 (raw.map Qq.v)),(2,V.str name),(7,.ptr 0 0),(8,.sl 6 (st.map Qv.v)),(9,.hd 1 0 acc.length),(10,V.int (m + 1:Nat)),(11,.ptr 2 0),(12,V.int q.1)] [.box true (QQ l q.2.1),.buf true 4 (acc.map Qq.v),.box true [.sl 1 (ws.map V.str),V.bool op,wcB q.2.2,V.int ln],.buf true 4 (q.2.2.map Qq.v)]) (fun q=>q.1) (ct,d7,[]) ⟨hH,k5,by simp;omega⟩ (by
    subst hws
    first
    | exact xI [0,1,12002,12005] (by rw [hm];rfl) ⟨⟨_,rfl,fun h=>h,Qc _ _ _ _ (Qh _ _)⟩,⟨_,rfl,fun h=>h,rfl,rfl⟩,⟨_,rfl,fun h=>h,qS (n:=5002) rfl (by decide),Ql _ _ _ (V.bool _) trivial,by simp [conv,wcB],Ql _ _ _ (V.int _) trivial,trivial⟩,⟨_,rfl,fun h=>h,rfl,rfl⟩,trivial⟩
    | exact xI [0,1,12002,12005] (by rw [hm];rfl) ⟨⟨_,rfl,fun h=>h,Qc _ _ _ _ (Qh _ _)⟩,⟨_,rfl,fun h=>h,rfl,rfl⟩,⟨_,rfl,fun h=>h,qS (n:=19002) rfl (by decide),Ql _ _ _ (V.bool _) trivial,by simp [conv,wcB],Ql _ _ _ (V.int _) trivial,trivial⟩,⟨_,rfl,fun h=>h,rfl,rfl⟩,trivial⟩
    | trace_state) fun q hq K2 hL2=>?_
   clear n1 n2 n3 n4 n5 k1 k2 k3 k4 k5 hH r5 hws
   obtain ⟨k,d8,sub⟩:=q
   obtain ⟨p1,p2,p3⟩:=hq
   simp only at p1 p2 p3 hL2 ⊢
   have fin:∀ s':St,(H = (sub,d8))→Cl C.m s' (stL [(1,.sl 4 (raw.map Qq.v)),(2,V.str name),(7,.ptr 0 0),(8,.sl 6 (st.map Qv.v)),(9,.hd 1 0 (acc++[Qq.mk ws op sub ln]).length),(10,V.int m)] [.box true (QQ l d8),.buf true 4 ((acc++[Qq.mk ws op sub ln]).map Qq.v)])→K' s':=fun s' hHe hcl=>by
    rw [hto,hHe] at q1
    exact hL s' (m,d8,acc++[Qq.mk ws op sub ln]) ⟨q1,p2,by simp;omega⟩ (kf _) hcl
   simp only [stL,QQ]
   have hln:acc.length + 1 = (acc++[Qq.mk ws op sub ln]).length:=by simp
   have htp:List.take acc.length (acc.map Qq.v) = acc.map Qq.v:=zb (by simp)
   have ews:IntKind.i64.wrap (2 + (sub.length:Int)) = 2 + (sub.length:Int):=Jc (by omega) (by omega)
   rcases k with _|k
   ·have e2:decide (((0:Nat):Int) > 0) = false:=rfl
    have hHe:H = (sub,d8):=by rw [← p1];split<;>rfl
    clear hL2
    rcases sub with _|⟨y,r⟩
    ·simp only [wcB]
     (have zx:=za e2 ew);refine zgo ?_;repeat' first|exact zt|apply zan|intro hc
     rw [hln]
     all_goals exact fin _ hHe (xI [0,9004] (by rw [hm];rfl) ⟨⟨_,rfl,fun h=>h,Qc _ _ _ _ (Qh _ _)⟩,⟨_,rfl,fun h=>h,rfl,by rw [htp];exact aci (by simp [conv]),XG _⟩,trivial⟩)
    ·simp only [wcB]
     (have zx:=za e2 ew);refine zgo ?_;repeat' first|exact zt|apply zan|intro hc
     rw [hln]
     all_goals exact fin _ hHe (xI [0,9004] (by rw [hm];rfl) ⟨⟨_,rfl,fun h=>h,Qc _ _ _ _ (Qh _ _)⟩,⟨_,rfl,fun h=>h,rfl,by rw [htp];exact aci (qS (l:=y :: r) (n:=3) rfl (by decide)),XG _⟩,trivial⟩)
   have e2:decide (((k + 1:Nat):Int) > 0) = true:=zu (by omega)
   have ek:IntKind.i64.wrap (((k + 1:Nat):Int) - 1) = (k:Int):=by rw [Jc (by omega) (by omega)];omega
   rcases op with _|_
   ·have hHe:H = (sub,d8):=by rw [← p1];rfl
    clear hL2
    rcases sub with _|⟨y,r⟩
    ·simp only [wcB]
     (have zx:=za e2 ew);refine zgo ?_;repeat' first|exact zt|apply zan|intro hc
     rw [hln]
     all_goals exact fin _ hHe (xI [0,9004] (by rw [hm];rfl) ⟨⟨_,rfl,fun h=>h,Qc _ _ _ _ (Qh _ _)⟩,⟨_,rfl,fun h=>h,rfl,by rw [htp];exact aci (by simp [conv]),XG _⟩,trivial⟩)
    ·simp only [wcB]
     (have zx:=za e2 ew);refine zgo ?_;repeat' first|exact zt|apply zan|intro hc
     rw [hln]
     all_goals exact fin _ hHe (xI [0,9004] (by rw [hm];rfl) ⟨⟨_,rfl,fun h=>h,Qc _ _ _ _ (Qh _ _)⟩,⟨_,rfl,fun h=>h,rfl,by rw [htp];exact aci (qS (l:=y :: r) (n:=3) rfl (by decide)),XG _⟩,trivial⟩)
   clear fin hln htp
   rw [if_pos rfl,alC] at p1
   have hso:aip l d8 sub.length = (let w:=XA l d8 UU;let v:=alv l w.2 w.1;let o:=QR l v.2 30;(.mk (w.1 :: v.1) (o.1 == 30 - 1) [] (2 + (sub.length:Int)),o.2)):=rfl
   have n1:=z8 l d8 hl p2
   have k1:=K5 (l:=l) (k:=d8) (xs:=UU) p2
   generalize XA l d8 UU = w1 at *
   obtain ⟨w,d9⟩:=w1
   simp only at k1 n1 hso
   have n2:=z9 l d9 w hl k1
   obtain ⟨v1,k2⟩:=alu (l:=l) (k:=d9) (w:=w) k1
   generalize alv l d9 w = w2 at *
   obtain ⟨vs,d10⟩:=w2
   simp only at k2 n2 v1 hso
   have n3:=z7 l d10 30 hl k2 (by omega) (by omega)
   have k3:=QS (l:=l) (k:=d10) (n:=30) k2
   generalize QR l d10 30 = w3 at *
   obtain ⟨on2,d11⟩:=w3
   simp only at k3 n3 hso
   rw [hso] at p1
   simp only at p1
   generalize (on2 == 30 - 1) = ob at *
   have hvl:=v1.h1
   have hlv:(vs.map V.str).length = vs.length:=zh _
   have hln:sub.length + 1 = (sub++[Qq.mk (w :: vs) ob [] (2 + (sub.length:Int))]).length:=by simp
   have htp:List.take sub.length (sub.map Qq.v) = sub.map Qq.v:=zb (by simp)
   simp only [QQ] at n1 n2 n3
   have e8:1 + vs.length = vs.length + 1:=Zk _ _
   rcases sub with _|⟨y,r⟩
   ·simp only [wcB]
    have e9:IntKind.i64.wrap 2 = 2:=by decide
    (have zx:=za e2 (za ek (za e9 (za e8 hlv))));refine zgo ?_;repeat' first|exact zt|apply zan|intro hc
    all_goals exact hL2 _ (k,d11,[]++[Qq.mk (w :: vs) ob [] (2 + (([]:List Qq).length:Int))]) ⟨by rw [if_pos rfl];exact p1,k3,by simp at p3 ⊢;omega⟩ (kf _) (xI [0,1,2,25004] (by rw [hm];rfl) ⟨⟨_,rfl,fun h=>h,Qc _ _ _ _ (Qh _ _)⟩,⟨_,rfl,fun h=>h,rfl,rfl⟩,⟨_,rfl,fun h=>h,Ql _ _ _ (.sl _ _) trivial,Ql _ _ _ (V.bool _) trivial,by simp [conv,wcB],Ql _ _ _ (V.int _) trivial,trivial⟩,⟨_,rfl,fun h=>h,rfl,ajk (acc:=[]) (ws:=w :: vs) (n:=16004) rfl (by decide),XG _⟩,trivial⟩)
   ·simp only [wcB]
    have hrs:r.length + 1≤7:=by simp only [List.length_cons] at p3;omega
    have hlr:((y :: r).map Qq.v).length = (y :: r).length:=zh _
    have e9:IntKind.i64.wrap (2 + ((r.length + 1:Nat):Int)) = 2 + ((r.length + 1:Nat):Int):=Jc (by omega) (by omega)
    have htr:List.take r.length (r.map Qq.v) = r.map Qq.v:=zb (by simp)
    (have zx:=za e2 (za ek (za e9 (za e8 (za htr (za hlv hlr))))));refine zgo ?_;repeat' first|exact zt|apply zan|intro hc
    all_goals exact hL2 _ (k,d11,(y :: r)++[Qq.mk (w :: vs) ob [] (2 + ((y :: r).length:Int))]) ⟨by rw [if_pos rfl];exact p1,k3,by simp at p3 ⊢;omega⟩ (kf _) (xI [0,1,2,25004] (by rw [hm];rfl) ⟨⟨_,rfl,fun h=>h,Qc _ _ _ _ (Qh _ _)⟩,⟨_,rfl,fun h=>h,rfl,rfl⟩,⟨_,rfl,fun h=>h,Ql _ _ _ (.sl _ _) trivial,Ql _ _ _ (V.bool _) trivial,by simp [conv,wcB],Ql _ _ _ (V.int _) trivial,trivial⟩,⟨_,rfl,fun h=>h,rfl,ajk (acc:=y :: r) (ws:=w :: vs) (n:=16004) rfl (by decide),XG _⟩,trivial⟩)
 ·have e1:decide (((0:Nat):Int) > 0) = false:=rfl
  rw [anB] at q1
  subst q1
  obtain ⟨g1,g2,_⟩:=hGk
  simp only at g1 g2
  clear hL
  have n1:=z6 l d [[119,101,98],[119,101,98],[100,98],name] hl q2 (by simp) (by simp)
  have hnm:(XA l d [[119,101,98],[119,101,98],[100,98],name]).1.length≤60:=by
   have:=acs (l:=l) (k:=d) (xs:=[[119,101,98],[119,101,98],[100,98],name]) (by simp) (by simp)
   simp only [zp,zy,or_false] at this
   rcases this with h|h|h|h<;>rw [h]<;>first|exact hnl|decide
  generalize XA l d [[119,101,98],[119,101,98],[100,98],name] = w1 at *
  obtain ⟨nm,d3⟩:=w1
  simp only at n1 hnm
  simp only [QQ,zm,zl] at n1
  simp only [stL,QQ]
  have hcur:∀ i:Nat,(∀ y∈(if i = 0 then acc else raw),y.Top)∧(if i = 0 then acc else raw).length < 2 ^ 27:=fun i=>by
   split
   ·exact ⟨g1,by omega⟩
   ·exact ⟨htop,by omega⟩
  (have zx:=e1);refine zgo ?_;repeat' first|exact zt|apply zan|intro hc
  refine JD (ι:=Nat) (fun i=>i≤2) (fun i=>stL [(1,.sl 4 (raw.map Qq.v)),(8,.sl 6 (st.map Qv.v)),(9,.sl 4 ((if i = 0 then acc else raw).map Qq.v)),(14,V.str nm),(15,V.int i)] []) (fun i=>2 - i) 0 (zw _) (xI [] (by rw [hm];rfl) trivial) fun i hi K2 hL2=>?_
  obtain ⟨hcv,hcl⟩:=hcur i
  simp only [stL]
  by_cases h2:i = 2
  ·subst h2
   have e2:decide (((2:Nat):Int) < 2) = false:=by decide
   (have zx:=e2);exact zg
  ·have e2:decide ((i:Int) < 2) = true:=by simp;omega
   have hwi:=Qd (k:=i) (by omega)
   have hnx:(if i + 1 = 0 then acc else raw) = raw:=if_neg (by omega)
   generalize (if i = 0 then acc else raw) = cur at *
   obtain ⟨e,n,k,hfe,sm⟩:=aok (l:=cur) (name:=nm) (st:=st) (by omega) hcv st1
   have f1:=(z10 cur nm st (by omega) hcl hcv (by omega) st1).b
   have f2:=(z11 cur nm st (by omega) hcl hcv (by omega) st1).b
   rw [hfe] at f1 f2
   have sa:=(z12 e e sm.se).b
   rw [ais] at sa
   have b1:(n != n) = false:=by simp
   have b2:(k != k) = false:=by simp
   simp only [QM.v,QM.cells] at f1 f2 sa
   (have zx:=za e2 (za hwi (za b1 b2)));refine zgo ?_;repeat' first|exact zt|apply zan|intro hc
   all_goals exact hL2 _ (i + 1) (by omega) (by omega) (by rw [hnx];exact xI [] (by rw [hm];rfl) trivial)
end Av
end
section
namespace Av
open Go
section
variable {Γ:Env} {A W:Nat→Bool} {b:Nat} {s:St} {d:Option Nat} {f:FuncId} {acts args:List V} {okf:Option (List Nat)→Prop} {J:St→Prop} {a n sx:Nat} {xs ys:List V} {x:V}
end
end Av
end
section
set_option linter.unusedSimpArgs false
set_option linter.unusedVariables false
set_option maxRecDepth 10000
set_option maxHeartbeats 4000000
namespace Av
open Go
end Av
end
section
namespace Av
open Go
section
variable {Γ:Env} {b:Nat} {r:List AO} {s:St} {d:Option Nat} {f:FuncId} {args:List V} {okf:Option (List Nat)→Prop} {K:St→Prop} {a a2 n n2 sx:Nat} {xs vs ys:List V} {i:Int}
end
end Av
end
