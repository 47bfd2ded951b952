/- K22 -/
import Derived.Test.YtphclkkggijicaaGreatDoorK21
import Derived.Test.YtphclkkggijicaaGreatDoorK12
set_option linter.unusedVariables false
set_option linter.unusedSimpArgs false
noncomputable section
set_option maxRecDepth 10000
set_option maxHeartbeats 4000000
namespace Av
open Go
attribute [local irreducible] AWp Vo Ky jA awS awC aad awQ aaN QL Vq vQ awR Vz awB okR js ris
def aoI:Nat→Nat→List UInt8→List UInt8
 | 0,_,b=>b
 | k + 1,n,b=>if n = 0 then b else aoI k (n / 256) (u8i ((n % 256:Nat):Int) :: b)
def beB (n:Nat):List UInt8:=aoI 8 n []
def akc (n:Nat):List UInt8:=if n < 128 then [u8i n] else u8i ((128 + (beB n).length:Nat):Int) :: beB n
theorem ajs:∀ (k n:Nat) (b:List UInt8),(aoI k n b).length≤k + b.length
 | 0,_,b=>by rw [aoI];omega
 | k + 1,n,b=>by
   rw [aoI];split
   ·omega
   ·have:=ajs k (n / 256) (u8i ((n % 256:Nat):Int) :: b)
    rw [List.length_cons] at this;omega
theorem apX (n:Nat):(beB n).length≤8:=ajs 8 n []
theorem ai2 (n:Nat):(akc n).length≤9:=by
 have:=apX n
 rw [akc];split
 ·simp
 ·rw [List.length_cons];omega
theorem ju (t:List UInt8):List.take t.length (t.map fun c=>V.sc (.int .u8 c.toNat)) = t.map fun c=>V.sc (.int .u8 c.toNat):=zb (by simp)
def VV:=qd Proofs.Tryz.f287 []
def Kp (Γ:Env) (f:Nat):Prop:=∀ (n:Nat) (hn:n < 2 ^ 60),EvC Γ f [V.int n] (.sl 1 (jk (akc n)))
attribute [local go_sem] jT Yd in
theorem acB {Γ:Env} {f:Nat} (h:Has Γ.P f 26 VV.1.1.ac VV.1.2) :Kp Γ f:=by
 intro n hn
 refine Qn h zsi zcl fun C hC hm=>?_
 subst hC
 simp only [VV,qd,DC.ac]
 have hu:=aeE
 by_cases h1:n < 128
 ·have e1:decide ((n:Int) < 128) = true:=by simp;omega
  have hl:akc n = [u8i n]:=by rw [akc,if_pos h1]
  rw [hl]
  (have zx:=za e1 hu);exact zg
 ·have e1:decide ((n:Int) < 128) = false:=by simp;omega
  have hl:akc n = u8i ((128 + (beB n).length:Nat):Int) :: beB n:=by rw [akc,if_neg h1]
  rw [hl]
  (have zx:=e1);refine zgo ?_;repeat' first|exact zt|apply zan|intro hc
  have hp8:(256:Nat) ^ 8 = 18446744073709551616:=by decide
  refine QA (ι:=Nat×Nat×List UInt8) (fun q=>aoI q.1 q.2.1 q.2.2 = beB n∧q.2.1 < 256 ^ q.1∧q.2.2.length + q.1 = 8∧q.2.1≤n) (fun q=>Yd [(0,V.int q.2.1),(3,.hd 0 0 q.2.2.length)] [(0,.buf true 1 (jk q.2.2))] 1) (fun q=>q.1) (8,n,[]) ⟨rfl,by simp only [hp8];omega,rfl,zi _⟩ (Qo [(0,3000)]) (JZ [(0,3000)] (by simp only [go_sem,zwl,List.length_nil]<;>exact zcc) (by simp only [go_sem,zwl,jk,zo]<;>exact zcc) (by simp [Qo]) (by simp;omega) (by omega)) fun q hq K' hL=>?_
  obtain ⟨j,m,c⟩:=q
  simp only at hq hL ⊢
  obtain ⟨g1,g2,g3,g4⟩:=hq
  have htk:=ju c
  by_cases hm0:m = 0
  ·subst hm0
   have g1:c = beB n:=by
    rw [← g1]
    cases j with
    | zero=>rfl
    | succ j=>rw [aoI,if_pos rfl]
   subst g1
   have hgt:decide (((0:Nat):Int) > 0) = false:=rfl
   have hlb:(128:Int) + ((beB n).length:Int) = ((128 + (beB n).length:Nat):Int):=by omega
   have hw1:IntKind.i64.wrap ((128 + (beB n).length:Nat):Int) = ((128 + (beB n).length:Nat):Int):=Q9 (by omega) (by omega)
   (have zx:=za hgt (za hlb (za hw1 (za hu htk))));refine zgo ?_;repeat' first|exact zt|apply zan|intro hc
   all_goals (refine Qd _ rfl ?_;simp only [go_sem,jk,zp,Zu 1,zh,List.take_succ_cons,ku,htk];done)
  ·rcases j with _|j
   ·rw [Nat.pow_zero] at g2;omega
   have hgt:decide ((m:Int) > 0) = true:=by simp;omega
   have e3:((m:Int).tmod 256) = ((m % 256:Nat):Int):=by rw [Int.tmod_eq_emod_of_nonneg (by omega)];omega
   have e4:IntKind.i64.wrap ((m:Int).tdiv 256) = ((m / 256:Nat):Int):=by rw [Int.tdiv_eq_ediv_of_nonneg (by omega)];rw [Q9 (by omega) (by omega)];omega
   rw [aoI,if_neg hm0] at g1
   rw [Nat.pow_succ] at g2
   (have zx:=za hgt (za e3 (za e4 (za hu htk))));refine zgo ?_;repeat' first|exact zt|apply zan|intro hc
   all_goals exact hL _ (j,m / 256,u8i ((m % 256:Nat):Int) :: c) (Qo [(0,7001)]) ⟨g1,Nat.div_lt_of_lt_mul (by rw [Nat.mul_comm];exact g2),by simp only [List.length_cons];omega,kB (Nat.div_le_self _ _) g4⟩ (kw _) (JZ [(0,7001)] (by simp only [go_sem,zwl,jk,zp,List.length_cons,zh,Zu 1]<;>exact zcc) (by simp only [go_sem,zwl,jk,zp]<;>exact zcc) (by simp [Qo]) (by simp;omega) (by omega))
mutual
def QQ.pB:QQ→List UInt8
 | .mk t b _ es=>u8i t :: (akc (b++pL es).length++(b++pL es))
def pL:List QQ→List UInt8
 | []=>[]
 | x :: r=>x.pB++pL r
end
mutual
theorem alp:∀ x:QQ,x.pB.length≤10 * x.siz
 | .mk t b _ es=>by
   have:=aou es
   have h2:=ai2 (b++pL es).length
   rw [QQ.pB,QQ.siz,List.length_cons,zC]
   rw [zC] at *
   omega
theorem aou:∀ es:List QQ,(pL es).length≤10 * x9 es
 | []=>zi _
 | x :: r=>by have:=alp x;have:=aou r;rw [pL,x9,zC];omega
end
theorem apc {es:List QQ} {k:Nat} {y:QQ} (h:es[k]? = some y):pL (es.take (k + 1)) = pL (es.take k)++y.pB:=by
 induction es generalizing k with
 | nil=>simp at h
 | cons x r ih =>
   cases k with
   | zero=>simp at h;subst h;simp [pL]
   | succ k=>rw [List.take_succ_cons,List.take_succ_cons,pL,pL,ih (by simpa using h),zP]
theorem ajW (es:List QQ) (k:Nat):(pL (es.take k)).length≤10 * x9 es:=by
 induction es generalizing k with
 | nil=>simp [pL]
 | cons x r ih =>
   cases k with
   | zero=>simp [pL]
   | succ k=>have:=ih k;have:=alp x;rw [List.take_succ_cons,pL,x9,zC];omega
def vS:List (List Nat):=[[],[0],[1],[2],[],[4],[5],[3,6,6],[],[7,8,7],[9,9,0,1,2,3,4,5,6,7,8,9]]
def w8:OT:=och 0 11
@[go_sem] def jC (Q0:Nat):OP:=oN 0 (fa 24 0 1) (oN 1 (ld 25 1 24) (oN 2 (xo 26 (.convI .u8 (.t 25))) (oN 3 (xo 27 (.bslice 1 1 false [(.int .u8 0)] [(0,(.t 26))])) (oN 4 (mv 28 3) (oN 5 (ln 29 28) (oN 6 (cl 30 Q0 [29]) (.one 7 true [6,3] (xo 31 (.append 1 1 [(.int .u8 0)] (.t 27) (.t 30))) (oN 8 (mv 32 3) (.one 9 true [7,6,3] (xo 33 (.append 1 1 [(.int .u8 0)] (.t 31) (.t 32))) (oN 10 (mv 2 33) .done))))))))))
def vk (Q0:Nat):List AO:=aoO (jC Q0)
instance (Q0:Nat):RG [] w8 (jC Q0) (vk Q0) vS 11 (fun _=>true):=⟨rfl,by kernel_rfl,by kernel_rfl⟩
def wL (aih Q0:Nat):AC:=Kw [1] (.reg [xo 1 (.box true 4 (.t 0)),xo 2 (.mknil 1)]) (Kw [1,3] (.reg [xo 5 (.bslice 0 1 false [(.int .u8 0)] []),fa 6 1 1,ld 7 1 6,xo 8 (.append 1 1 [(.int .u8 0)] (.t 5) (.t 7)),mv 3 8]) (Kw [1,3] (Kw [1,3,4] (.reg [mc 4 (V.int 0)]) (.block 0 (agw [1,3,4] (Kw [1,3,4] (Kw [1,3,4,13] (.reg [mv 9 4,fa 10 3 1,ld 11 1 10,ln 12 11,bn 13 .lss 9 12]) (.cond (.t 13) .skip (.exit 0))) (Kw [1,3,4] (.block 1 (.reg [mv 16 3,fa 17 3 1,ld 18 1 17,mv 19 4,ia 20 4 18 19,xo 21 (.load true 4 (.t 20)),cl 22 aih [21],xo 23 (.append 1 1 [(.int .u8 0)] (.t 16) (.t 22)),mv 3 23])) (.reg [mv 14 4,bc 15 .add 14 (V.int 1),mv 4 15])))))) (Kw [2] (aqc [] w8 (jC Q0) (vk Q0) vS) .ret))) def Zx:List V8:=[.tmp 2]
def xA (Γ:Env) (f:Nat):Prop:=∀ (x:QQ) (hx:x.siz < 2 ^ 35),EvC Γ f [x.v] (.sl 1 (jk x.pB))
attribute [local go_sem] zh QQ.v_eq jT Yd in
theorem ag0 {Γ:Env} {f Q0:Nat} (h:Has Γ.P f 34 (wL f Q0) Zx) (z0:Kp Γ Q0):xA Γ f:=by
 suffices H:∀ (kk:Nat),∀ (x:QQ) (hx:x.siz < 2 ^ 35),x.siz < kk→EvC Γ f [x.v] (.sl 1 (jk x.pB)) from fun x hx=>H _ x hx (kw _)
 intro kk;induction kk with
 | zero=>intros;rename_i hk;exact absurd hk (Zr _)
 | succ kk ih =>
 intro x hx hk
 refine Qn h zsi zcl fun C hC hm=>?_
 subst hC
 unfold wL
 obtain ⟨t,b,n,es⟩:=x
 simp only [QQ.v_eq]
 have hss:(QQ.mk t b n es).siz = 1 + b.length + x9 es:=by rw [QQ.siz]
 have hle:=ab6 es
 have hu:=aeE
 have htb:=ju b
 (have zx:=htb);refine zgo ?_;repeat' first|exact zt|apply zan|intro hc
 refine QA (ι:=Nat) (fun k=>k≤es.length) (fun k=>Yd [(1,.ptr 0 0),(3,.hd 1 0 (b++pL (es.take k)).length),(4,V.int k)] [(0,.box true [V.int t,.sl 1 (jk b),V.bool n,.sl 4 (es.map QQ.v)]),(1,.buf true 1 (jk (b++pL (es.take k))))] 2) (fun k=>es.length - k) 0 (zu _) (Qo [(1,5000)]) (JZ [(1,5000)] (by simp only [go_sem,zwl,jk,zh,List.take_zero,pL,zU]<;>exact zcc) (by simp only [go_sem,zwl,jk,List.take_zero,pL,zU]<;>exact zcc) (by simp [Qo]) (by simp;omega) (by omega)) fun k hk K' hL=>?_
 have hab:=ajW es k
 have hll:(b++pL (es.take k)).length = b.length + (pL (es.take k)).length:=zC
 rcases hd:es.drop k with _|⟨y,r⟩
 ·have hkl:=Qj hd
  have e1:decide ((k:Int) < (((es.map QQ.v).length:Nat):Int)) = false:=by simp;omega
  rw [zb hkl] at *
  have hlg:=(z0 (b++pL es).length (by omega)).b
  have hl9:=ai2 (b++pL es).length
  have hpb:(QQ.mk t b n es).pB = u8i t :: (akc (b++pL es).length++(b++pL es)):=by rw [QQ.pB]
  rw [hpb]
  generalize b++pL es = a at *
  have hta:=ju a
  have htl:=ju (akc a.length)
  have hT1:∀ v:V,List.take (1 + (akc a.length).length) (v :: jk (akc a.length)) = v :: jk (akc a.length):=fun v=>zb (by simp [Zu])
  (have zx:=za e1 (za hu (za hta (za htl hT1))));refine zgo ?_;repeat' first|exact zt|apply zan|intro hc
  all_goals (refine Qd _ rfl ?_;simp only [go_sem,ku];rw [zb (by simp;omega)];simp [jk])
 ·obtain ⟨hk',hget,hr⟩:=Qf hd
  have hw:=Qc (k:=k) (by omega)
  have e1:decide ((k:Int) < (((es.map QQ.v).length:Nat):Int)) = true:=by simp;omega
  have hys:=aeI hget
  have htk:=apc hget
  have hyl:=alp y
  obtain ⟨yt,yb,yn,ye⟩:=y
  have hi:=(ih (.mk yt yb yn ye) (by omega) (by omega)).b
  rw [QQ.v_eq] at hi
  generalize (QQ.mk yt yb yn ye).pB = p at *
  have hnx:b++pL (es.take (k + 1)) = (b++pL (es.take k))++p:=by rw [htk,zP]
  generalize hA:b++pL (es.take k) = a at *
  have hta:=ju a
  (have zx:=za e1 (za hw (za hget hta)));refine zgo ?_;repeat' first|exact zt|apply zan|intro hc
  all_goals exact hL _ (k + 1) (Qo [(1,12002)]) hk' (by omega) (JZ [(1,12002)] (by simp only [go_sem,zwl,hnx,zC]<;>exact zcc) (by simp only [go_sem,zwl,hnx,jk,zD]<;>exact zcc) (by simp [Qo]) (by simp;omega) (by omega))
section
variable {C:Ctx} {nt:Nat} {s:St} {K:St→Prop} {E:Nat→St→Prop} {R:St→Prop}
theorem JO {ks:List Nat} {x:AC} {ι:Type} (good:ι→Prop) (inv:ι→St) (msr:ι→Nat) (i0:ι) (h0:good i0) (hw:Cl C.m s (inv i0))
  (h:∀ i,good i→∀ K':St→Prop,(∀ s' i',good i'→msr i' < msr i→Cl C.m s' (inv i')→K' s')→AWp C nt x (inv i) K' E R):AWp C nt (agw ks x) s K E R :=
 amA good inv msr ⟨i0,h0,hw⟩ fun i hi=>h i hi _ fun _ i' h1 h2 h3=>⟨i',h1,h2,h3⟩
end
def arB (l:List QQ) (k:Nat):St:=stL [(0,.sl 4 (l.map QQ.v)),(3,.hd 0 0 k),(4,V.int k)] [.buf true 4 ((l.take k).map QQ.v)]
theorem aae {o:Nat→Option Ob} {br:List Nat} {B:Option (List Nat)} {ys zs:List V} (h:Kg o br B ys zs):∀ l:List QQ,Kg o br B (l.map QQ.v++ys) (l.map QQ.v++zs)
 | []=>h
 | x :: r=>⟨by obtain ⟨t,b,n,es⟩:=x;rw [QQ.v_eq];exact Qg _ _ _ _ (by simp [V.cells,Qa,V.closed]),aae h r⟩
theorem amg {o:Nat→Option Ob} {br:List Nat} {n:Nat} {t:Int} {b:List UInt8} {q:Bool} {es:List V} (h:o n = some (.buf true 1 (jk b))) (hn:n ∉ br) :
  Qz o br none [V.int t,.hd n 0 (jk b).length,V.bool q,.sl 4 es] [V.int t,.sl 1 (jk b),V.bool q,.sl 4 es]:=by
 refine ⟨by simp [conv,V.int],?_,by simp [conv,V.bool],by simp [conv],trivial⟩
 simp only [conv]
 exact ⟨trivial,hn,.inl ⟨true,_,h,by rw [ku,zb (zi _)]⟩⟩
theorem yV:∀ l:List QQ,Kh (l.map QQ.v)
 | []=>trivial
 | x :: r=>⟨by obtain ⟨t,b,n,es⟩:=x;rw [QQ.v_eq];simp [V.cells,Qa,V.closed],yV r⟩
def qF (adk:Nat):AC:=Kw [0] (.reg [xo 2 (.mknil 4)]) (Kw [0,3] (.reg [xo 3 (.mknil 4)]) (Kw [3] (Kw [0,3,4] (.reg [mc 4 (V.int 0)]) (.block 0 (agw [0,3,4] (Kw [0,3,4] (Kw [0,3,4,9] (.reg [mv 6 4,mv 7 0,ln 8 7,bn 9 .lss 6 8]) (.cond (.t 9) .skip (.exit 0))) (Kw [0,3,4] (.block 1 (Kw [0,3,4,5] (.reg [mv 12 0,mv 13 4,ia 14 4 12 13,xo 15 (.load true 4 (.t 14)),xo 5 (.alloc [.val vi0,.nil 1,.val (.bool false),.nil 4]),xs 4 5 15]) (Kw [0,3,4,5] (.reg [xo 16 (.bslice 0 1 false [(.int .u8 0)] []),fa 17 1 5,ld 18 1 17,xo 19 (.append 1 1 [(.int .u8 0)] (.t 16) (.t 18)),fa 20 1 5,xs 1 20 19]) (Kw [0,3,4,5] (.reg [fa 21 3 5,ld 22 1 21,cl 23 adk [22],fa 24 3 5,xs 1 24 23]) (.reg [mv 25 3,xo 26 (.load true 4 (.t 5)),xo 27 (.obslice 1 4 true [vi0,vn0,(.bool false),vn0] [(0,(.t 26))]),xo 28 (.append 4 64 [vi0,vn0,(.bool false),vn0] (.t 25) (.t 27)),mv 3 28]))))) (.reg [mv 10 4,bc 11 .add 10 (V.int 1),mv 4 11])))))) (Kw [2] (.reg [mv 29 3,mv 2 29]) .ret))) def Zy:List V8:=[.tmp 2]
def Kr (Γ:Env) (f:Nat):Prop:=∀ (l:List QQ) (hx:x9 l < 2 ^ 33),EvC Γ f [.sl 4 (l.map QQ.v)] (.sl 4 (l.map QQ.v))
attribute [local go_sem] QQ.v_eq jT in
theorem acD {Γ:Env} {f:Nat} (h:Has Γ.P f 30 (qF f) Zy) :Kr Γ f:=by
 suffices H:∀ (kk:Nat),∀ (l:List QQ) (hx:x9 l < 2 ^ 33),x9 l < kk→EvC Γ f [.sl 4 (l.map QQ.v)] (.sl 4 (l.map QQ.v)) from fun l hx=>H _ l hx (kw _)
 intro kk;induction kk with
 | zero=>intros;rename_i hk;exact absurd hk (Zr _)
 | succ kk ih =>
 intro l hx hk
 refine Qn h zsi zcl fun C hC hm=>?_
 subst hC
 unfold qF
 have hle:=ab6 l
 refine zgo ?_;repeat' first|exact zt|apply zan|intro hc
 refine JO (ι:=Nat) (fun k=>k≤l.length) (fun k=>arB l k) (fun k=>l.length - k) 0 (zu _) ?_ fun k hk K' hL=>?_
 ·refine ais [1000] none (fun p hp=>?_) ?_ (by simp) (by rw [hm];rfl)
  ·simp only [zn,zw,or_false] at hp
   rcases hp with rfl|rfl|rfl
   ·exact Qr _ _ _ (.sl 4 _) trivial
   ·show conv _ _ _ (.hd 1000 0 0) (.hd 0 0 0)
    simp [conv]
   ·exact Qr _ _ _ (V.int 0) trivial
  ·exact ⟨⟨_,rfl,fun h=>h,rfl,rfl⟩,trivial⟩
 have hlm:(l.map QQ.v).length = l.length:=zh _
 rcases hd:l.drop k with _|⟨y,r⟩
 ·have hkl:=Qj hd
  have e1:decide ((k:Int) < ((l.length:Nat):Int)) = false:=by simp;omega
  obtain rfl:k = l.length:=by omega
  simp only [arB,stL,zR]
  (have zx:=za e1 hlm);refine zgo ?_;repeat' first|exact zt|apply zan|intro hc
  all_goals
   refine Qd _ rfl ?_
   show conv _ _ _ (.hd 0 0 l.length) (.sl 4 _)
   simp only [conv]
   exact ⟨trivial,by simp,.inl ⟨true,_,rfl,by rw [ku,zb (by simp)]⟩⟩
 ·obtain ⟨hk',hget,hr⟩:=Qf hd
  have hw:=Qc (k:=k) (by omega)
  have e1:decide ((k:Int) < ((l.length:Nat):Int)) = true:=by simp;omega
  have hys:=aeI hget
  obtain ⟨yt,yb,yn,ye⟩:=y
  have hss:(QQ.mk yt yb yn ye).siz = 1 + yb.length + x9 ye:=by rw [QQ.siz]
  have hi:=(ih ye (by omega) (by omega)).b
  have htb:=ju yb
  simp only [arB,stL]
  (have zx:=za e1 (za hlm (za hw (za hget htb))));refine zgo ?_;repeat' first|exact zt|apply zan|intro hc
  all_goals
   refine hL _ (k + 1) hk' (by omega) (ais [24001] none (fun p hp=>?_) ?_ (by simp) (by rw [hm];rfl))
   ·simp only [zn,zw,or_false] at hp
    rcases hp with rfl|rfl|rfl
    ·exact Qr _ _ _ (.sl 4 _) trivial
    ·show conv _ _ _ (.hd 24001 0 (k + 1)) (.hd 0 0 (k + 1))
     simp [conv]
    ·exact Qr _ _ _ (V.int (k + 1:Nat)) trivial
   ·refine ⟨⟨_,rfl,fun h=>h,rfl,?_,yV _⟩,trivial⟩
    have hA:List.take k ((l.take k).map QQ.v) = (l.take k).map QQ.v:=zb (by rw [zh,zJ];omega)
    have hB:l.take (k + 1) = l.take k++[.mk yt yb yn ye]:=by rw [zy,hget];rfl
    rw [hB,zD]
    show Kg _ _ _ (List.take k ((l.take k).map QQ.v)++[V.agg [V.int yt,.hd 13001 0 (jk yb).length,V.bool yn,.sl 4 (ye.map QQ.v)]]) _
    rw [hA]
    refine aae ?_ _
    show Kg _ _ _ [V.agg [V.int yt,.hd 13001 0 (jk yb).length,V.bool yn,.sl 4 (ye.map QQ.v)]] [QQ.v (.mk yt yb yn ye)]
    rw [QQ.v_eq]
    exact ⟨amg rfl (by decide),trivial⟩
def ahB (l:List QQ):QQ:=.mk 48 [] true l
def wT (s:List UInt8):QQ:=.mk 12 s false []
def am1 (b:Bool):QQ:=.mk 1 [if b then 255 else 0] false []
def qc:=qd Proofs.Tryz.f269 []
def U4 (Γ:Env) (f:Nat):Prop:=∀ (l:List QQ) (hx:x9 l < 2 ^ 33),EvC Γ f [.sl 4 (l.map QQ.v)] ((ahB l).v)
theorem afl {Γ:Env} {f:Nat} (h:Has Γ.P f 6 qc.1.1.ac qc.1.2) (z0:Kr Γ 288):U4 Γ f:=by
 intro l hx
 refine Qn h zsi (QQ.v_closed _) fun C hC hm=>?_
 subst hC
 simp only [qc,qd,DC.ac]
 simp only [ahB,QQ.v_eq]
 exact zg
def K9:=qd Proofs.Tryz.f268 []
def yq (Γ:Env) (f:Nat):Prop:=∀ (s:List UInt8) (hs:s.length < 2 ^ 33),EvC Γ f [V.str s] ((wT s).v)
theorem afk {Γ:Env} {f:Nat} (h:Has Γ.P f 6 K9.1.1.ac K9.1.2) :yq Γ f:=by
 intro s hs
 refine Qn h zsi (QQ.v_closed _) fun C hC hm=>?_
 subst hC
 simp only [K9,qd,DC.ac]
 simp only [wT,QQ.v_eq]
 have htk:=ju s
 refine zgo ?_;repeat' first|exact zt|apply zan|intro hc
 all_goals first|exact zr|(refine Qd _ rfl ?_;simp only [go_sem,htk];done)
def qe:=qd Proofs.Tryz.f272 []
def yr (Γ:Env) (f:Nat):Prop:=∀ (b:Bool),EvC Γ f [V.bool b] ((am1 b).v)
theorem afm {Γ:Env} {f:Nat} (h:Has Γ.P f 8 qe.1.1.ac qe.1.2) :yr Γ f:=by
 intro b
 refine Qn h zsi (QQ.v_closed _) fun C hC hm=>?_
 subst hC
 simp only [qe,qd,DC.ac]
 simp only [am1,QQ.v_eq]
 cases b
 all_goals refine zgo ?_;repeat' first|exact zt|apply zan|intro hc
 all_goals first|exact zr|(refine Qd _ rfl ?_;simp only [go_sem];rfl)
def aoF (x:QQ):V:=if x.fB = false then .tup [.sl 1 [],V.int 1] else if x.dep > 16 then .tup [.sl 1 [],V.int 3] else if x.pB.length > 4096 then .tup [.sl 1 [],V.int 3] else .tup [.sl 1 (jk x.pB),V.int 0]
theorem acP (x:QQ):(aoF x).closed:=by
 unfold aoF
 repeat' split
 all_goals simp only [V.closed,Qa,and_self]
def VW:=qd Proofs.Tryz.f240 []
def Ks (Γ:Env) (f:Nat):Prop:=∀ (x:QQ) (hx:x.siz < 2 ^ 35),EvC Γ f [x.v] (aoF x)
theorem acE {Γ:Env} {f:Nat} (h:Has Γ.P f 17 VW.1.1.ac VW.1.2) (z0:Kq Γ 265) (z1:q8 Γ 266) (z2:xA Γ 267):Ks Γ f:=by
 intro x hx
 refine Qn h zsi (acP _) fun C hC hm=>?_
 subst hC
 simp only [VW,qd,DC.ac]
 have hf:=(z0 x (by omega)).b
 have hd:=(z1 x (by omega)).b
 have hp:=(z2 x hx).b
 have he:aoF x = if x.fB = false then .tup [.sl 1 [],V.int 1] else if x.dep > 16 then .tup [.sl 1 [],V.int 3] else if x.pB.length > 4096 then .tup [.sl 1 [],V.int 3] else .tup [.sl 1 (jk x.pB),V.int 0]:=rfl
 rw [he]
 generalize x.pB = p at *
 generalize x.dep = d at *
 generalize x.fB = q at *
 obtain ⟨t,b,n,es⟩:=x
 rw [QQ.v_eq] at *
 rcases q with _|_
 ·rw [if_pos rfl]
  exact zg
 ·rw [if_neg (by decide)]
  by_cases h2:d > 16
  ·rw [if_pos h2]
   have e2:decide ((d:Int) > 16) = true:=by simp;omega
   (have zx:=e2);exact zg
  ·rw [if_neg h2]
   have e2:decide ((d:Int) > 16) = false:=by simp;omega
   have hpl:((jk p).length:Int) = (p.length:Int):=by rw [afC]
   by_cases h3:p.length > 4096
   ·rw [if_pos h3]
    have e3:decide ((p.length:Int) > 4096) = true:=by simp;omega
    (have zx:=za e2 (za hpl e3));exact zg
   ·rw [if_neg h3]
    have e3:decide ((p.length:Int) > 4096) = false:=by simp;omega
    (have zx:=za e2 (za hpl e3));exact zg
def ahL (h:Int) (c:UInt8):Int:=IntKind.u32.wrap (IntKind.u32.wrap ((BitVec.ofInt IntKind.u32.bits h ^^^ BitVec.ofInt IntKind.u32.bits (IntKind.u32.wrap (c.toNat:Int))).toNat:Nat) * 16777619)
def am3:Int→List UInt8→Int
 | h,[]=>h
 | h,c :: r=>am3 (ahL h c) r
def am4 (b:List UInt8):Int:=IntKind.i64.wrap (am3 2166136261 b)
def jX:=qd Proofs.Tryz.f207 []
def xw (Γ:Env) (f:Nat):Prop:=∀ (b:List UInt8) (hb:b.length < 2 ^ 60),EvN Γ f [.sl 1 (jk b)] (V.int (am4 b))
theorem agW {Γ:Env} {f:Nat} (h:Has Γ.P f 21 jX.1.1.ac jX.1.2) :xw Γ f:=by
 intro b hb
 refine Qb h zsi zcl zcl fun C hC hm=>?_
 subst hC
 simp only [jX,qd,DC.ac]
 have hln:(jk b).length = b.length:=afC b
 have hst:∀ h c,ahL h c = IntKind.u32.wrap (IntKind.u32.wrap ((BitVec.ofInt IntKind.u32.bits h ^^^ BitVec.ofInt IntKind.u32.bits (IntKind.u32.wrap (c.toNat:Int))).toNat:Nat) * 16777619):=fun _ _=>rfl
 (have zx:=hln);refine zgo ?_;repeat' first|exact zt|apply zan|intro hc
 refine Qp (ι:=Nat×Int) (fun q=>q.1≤b.length∧am3 q.2 (b.drop q.1) = am3 2166136261 b) (fun q=>[(3,.sc (.int .u32 q.2)),(4,V.int q.1)]) (fun q=>b.length - q.1) (0,2166136261) (by omega) ⟨zu _,rfl⟩ zol zlt zet fun q hq K' hL=>?_
 obtain ⟨k,h⟩:=q
 simp only at hq hL ⊢
 obtain ⟨hk,hinv⟩:=hq
 simp only [ovT,Je,Nat.reduceEqDiff,reduceIte]
 rcases hd:b.drop k with _|⟨y,r⟩
 ·have hkl:=Qj hd
  have e1:decide ((k:Int) < ((b.length:Nat):Int)) = false:=by simp;omega
  rw [hd] at hinv
  have hs:am4 b = IntKind.i64.wrap h:=by rw [am4,← hinv];rfl
  rw [hs]
  (have zx:=za hln e1);exact zg
 ·obtain ⟨hk',hget,hr⟩:=Qf hd
  have hw:=Qc (k:=k) (by omega)
  have e1:decide ((k:Int) < ((b.length:Nat):Int)) = true:=by simp;omega
  have hg2:(jk b)[k]? = some (.sc (.int .u8 y.toNat)):=by rw [zF,hget];rfl
  rw [hd] at hinv
  repeat' (first|(refine zsk ?_;intro K' hK)|refine zsp ?_|(refine zsc ?_ ?_<;>intro hc<;>first|exact znh|try simp only [znz] at hc)|simp (maxSteps:=1000000) only [go_sem,hln,e1,hw,Int.toNat_natCast,hg2,← hst]|(refine hK _ ?_;clear hK K')|apply zan|exact zsq|fail)
  all_goals exact hL _ (k + 1,ahL h y) zet ⟨hk',by rw [hr,← hinv];rfl⟩ (by simp only;omega) zoe
theorem anF (n:Int):(ard n).length≤10:=by
 have:∀ (k:Nat) (x:Int) (b:List UInt8),(agF k x b).length≤k + b.length:=by
  intro k
  induction k with
  | zero=>intro x b;rw [agF];omega
  | succ k ih =>
    intro x b
    rw [agF]
    split
    ·have:=ih (x.fdiv 256) (u8i x :: b);rw [List.length_cons] at this;omega
    ·omega
 have h:=this 9 (n.fdiv 256) [u8i n]
 rw [List.length_singleton] at h
 exact h
theorem UC (n:Int):(yU n).siz≤11:=by have:=anF n;rw [yU,QQ.siz,x9];omega
def wY (a b:Int):QQ:=ahB [yU a,yU b]
theorem af4 (a b:Int):(wY a b).siz≤30:=by
 have h1:=UC a
 have h2:=UC b
 rw [wY,ahB,QQ.siz,x9,x9,x9,List.length_nil];omega
def jW:=qd Proofs.Tryz.f271 [⟨fun y=>!decide (y = 1000),[7],zoc 0 9⟩]
def xv (Γ:Env) (f:Nat):Prop:=∀ (a b:Int) (h0:-9223372036854775808≤a) (h1:a < 9223372036854775808) (h2:-9223372036854775808≤b) (h3:b < 9223372036854775808),EvC Γ f [.agg [V.int a,V.int b]] ((wY a b).v)
theorem agV {Γ:Env} {f:Nat} (h:Has Γ.P f 11 jW.1.1.ac jW.1.2) (z0:qt Γ 270) (z1:U4 Γ 269):xv Γ f:=by
 intro a b h0 h1 h2 h3
 refine Qn h zsi (QQ.v_closed _) fun C hC hm=>?_
 subst hC
 simp only [jW,qd,DC.ac]
 have ia:=(z0 a h0 h1).b
 have ib:=(z0 b h2 h3).b
 have hsa:=UC a
 have hsb:=UC b
 have il:=z1 [yU a,yU b] (by rw [x9,x9,x9];omega)
 simp only [zp,zo,ahB,QQ.v_eq] at il
 obtain ⟨cs,hcs,hl4,hcl,hcc⟩:=QQ.v_agg (yU a)
 simp only [yU,QQ.v_eq] at ia ib il
 simp only [wY,ahB,QQ.v_eq,zp,zo,yU]
 repeat' (first|(refine zsk ?_;intro K' hK)|(refine zrg ?_;intro K' hK)|refine zsp ?_|(refine zsc ?_ ?_<;>intro hc<;>first|exact znh|try simp only [znz] at hc)|simp (maxSteps:=1000000) only [go_sem,V.shutOk0,VL,V.shut0,KM,ntL,not_false_eq_true]|(refine hK _ ?_;clear hK K')|apply zan|(apply amE;(focus first|exact il))|(apply amG;(focus first|exact il);(focus first|exact rfl|decide))|((first|apply Ju|apply QZ);(focus first|exact ia|exact ib|exact (z0 _ zsd zsd).b|exact (z1 _ zsd).b))|exact zsq|fail)
 all_goals exact zr
abbrev I60 (n:Int):Prop:=-1152921504606846976≤n∧n≤1152921504606846976
structure Qi.T (c:Qi):Prop where
 i1:I60 c.serial
 i2:I60 c.kalg
 i3:I60 c.kbits
 i4:I60 c.kid
 i5:I60 c.halg
 i6:I60 c.hbits
 i7:I60 c.from_
 i8:I60 c.to_
 i9:I60 c.path
 l1:c.issuer.length≤1000
 l2:c.subject.length≤1000
 l3:c.names.length≤64
 l4:∀ x∈c.names,x.length≤1000
def vO (c:Qi):QQ:=ahB [yU c.serial,wT c.issuer,wT c.subject,wY c.kalg c.kbits,yU c.kid,wY c.halg c.hbits,yU c.from_,yU c.to_,am1 c.auth,yU c.path,ahB (c.names.map wT)]
theorem af3 (s:List UInt8):(wT s).siz = 1 + s.length:=by rw [wT,QQ.siz,x9,Nat.add_zero]
theorem am0 (b:Bool):(am1 b).siz = 2:=by rw [am1,QQ.siz,x9];simp
theorem acn:∀ {l:List (List UInt8)},(∀ x∈l,x.length≤1000)→x9 (l.map wT)≤1001 * l.length
 | [],_=>zi _
 | x :: r,h=>by
   have h1:=acn (l:=r) fun y hy=>h y (by simp [hy])
   have h2:=h x (by simp)
   rw [zp,x9,af3,List.length_cons];omega
theorem ahg {c:Qi} (t:c.T):(vO c).siz≤100000:=by
 have h1:=acn t.l4
 have h2:=t.l1
 have h3:=t.l2
 have h4:=t.l3
 have i1:=UC c.serial
 have i2:=UC c.kid
 have i3:=UC c.from_
 have i4:=UC c.to_
 have i5:=UC c.path
 have u1:=af4 c.kalg c.kbits
 have u2:=af4 c.halg c.hbits
 simp only [vO,ahB,QQ.siz,x9,af3,am0,List.length_nil]
 omega
def arD (c:Qi) (k:Nat):St:=stL [(1,.ptr 0 0),(2,.ptr 1 0),(3,.hd 4 0 k),(4,V.int k)] [.box true c.cells,.box true [V.int 0,.hd 2 0 0,V.bool false,.hd 3 0 0],.buf true 1 [],.buf true 4 [],.buf true 4 (((c.names.take k).map wT).map QQ.v)]
def KX:=qd Proofs.Tryz.f241 [⟨fun y=>!decide (y = 1) && !decide (y = 4),[31,33],zoc 0 35⟩]
def yl (Γ:Env) (f:Nat):Prop:=∀ (c:Qi) (hc:c.T),EvC Γ f [c.v] ((vO c).v)
attribute [local go_sem] List.getElem?_cons_succ List.getElem?_cons_zero Qi.cells in
theorem afb {Γ:Env} {f:Nat} (h:Has Γ.P f 55 KX.1.1.ac KX.1.2) (z0:yq Γ 268) (z1:qt Γ 270) (z2:xv Γ 271) (z3:yr Γ 272) (z4:U4 Γ 269):yl Γ f:=by
 intro c hc
 refine Qn h zsi (QQ.v_closed _) fun C hC hm=>?_
 subst hC
 simp only [KX,qd,DC.ac]
 have hl3:=hc.l3
 have hln:(c.names.map V.str).length = c.names.length:=zh _
 simp only [Qi.v]
 refine zgo ?_;repeat' first|exact zt|apply zan|intro hc
 have hcl:Qa c.cells:=by simp only [Qi.cells,V.closed,Qa,and_self]
 refine JO (ι:=Nat) (fun k=>k≤c.names.length) (fun k=>arD c k) (fun k=>c.names.length - k) 0 (zu _) ?_ fun k hk K' hL=>?_
 ·refine ais [0,1000,1002,1004,2000] none (fun p hp=>?_) ?_ (by simp) (by rw [hm];rfl)
  ·simp only [zn,zw,or_false] at hp
   rcases hp with rfl|rfl|rfl|rfl
   ·show conv _ _ _ (.ptr 0 0) (.ptr 0 0)
    simp [conv]
   ·show conv _ _ _ (.ptr 1000 0) (.ptr 1 0)
    simp [conv]
   ·show conv _ _ _ (.hd 2000 0 0) (.hd 4 0 0)
    simp [conv]
   ·exact Qr _ _ _ (V.int 0) trivial
  ·exact ⟨⟨_,rfl,fun h=>h,Qg _ _ _ _ hcl⟩,⟨_,rfl,fun h=>h,by show Qz _ _ _ [_,_,_,_] _;simp [Qz,conv,V.int,V.bool]⟩,⟨_,rfl,fun h=>h,rfl,rfl⟩,⟨_,rfl,fun h=>h,rfl,rfl⟩,⟨_,rfl,fun h=>h,rfl,rfl⟩,trivial⟩
 rcases hd:c.names.drop k with _|⟨y,r⟩
 ·have hkl:=Qj hd
  have e1:decide ((k:Int) < ((c.names.length:Nat):Int)) = false:=by simp;omega
  obtain rfl:k = c.names.length:=by omega
  simp only [arD,stL,zR]
  have ns:=acn hc.l4
  have i1:=(z1 c.serial (by have:=hc.i1;omega) (by have:=hc.i1;omega)).b
  have i2:=(z1 c.kid (by have:=hc.i4;omega) (by have:=hc.i4;omega)).b
  have i3:=(z1 c.from_ (by have:=hc.i7;omega) (by have:=hc.i7;omega)).b
  have i4:=(z1 c.to_ (by have:=hc.i8;omega) (by have:=hc.i8;omega)).b
  have i5:=(z1 c.path (by have:=hc.i9;omega) (by have:=hc.i9;omega)).b
  have t1:=(z0 c.issuer (by have:=hc.l1;omega)).b
  have t2:=(z0 c.subject (by have:=hc.l2;omega)).b
  have u1:=(z2 c.kalg c.kbits (by have:=hc.i2;omega) (by have:=hc.i2;omega) (by have:=hc.i3;omega) (by have:=hc.i3;omega)).b
  have u2:=(z2 c.halg c.hbits (by have:=hc.i5;omega) (by have:=hc.i5;omega) (by have:=hc.i6;omega) (by have:=hc.i6;omega)).b
  have b1:=(z3 c.auth).b
  have htn:List.take c.names.length ((c.names.map wT).map QQ.v) = (c.names.map wT).map QQ.v:=zb (by simp)
  have n1:=z4 (c.names.map wT) (by omega)
  have bs:=ahg hc
  have l1:=z4 [yU c.serial,wT c.issuer,wT c.subject,wY c.kalg c.kbits,yU c.kid,wY c.halg c.hbits,yU c.from_,yU c.to_,am1 c.auth,yU c.path,ahB (c.names.map wT)] (by rw [vO,ahB,QQ.siz] at bs;omega)
  have hb:(vO c).v = (ahB [yU c.serial,wT c.issuer,wT c.subject,wY c.kalg c.kbits,yU c.kid,wY c.halg c.hbits,yU c.from_,yU c.to_,am1 c.auth,yU c.path,ahB (c.names.map wT)]).v:=rfl
  rw [hb]
  simp only [zp,zo] at l1
  generalize (ahB [yU c.serial,wT c.issuer,wT c.subject,wY c.kalg c.kbits,yU c.kid,wY c.halg c.hbits,yU c.from_,yU c.to_,am1 c.auth,yU c.path,ahB (c.names.map wT)]) = res at *
  generalize yU c.serial = a1 at *
  generalize yU c.kid = a2 at *
  generalize yU c.from_ = a3 at *
  generalize yU c.to_ = a4 at *
  generalize yU c.path = a5 at *
  generalize wT c.issuer = a6 at *
  generalize wT c.subject = a7 at *
  generalize wY c.kalg c.kbits = a8 at *
  generalize wY c.halg c.hbits = a9 at *
  generalize am1 c.auth = a10 at *
  generalize ahB (c.names.map wT) = a11 at *
  obtain ⟨_,_,_,_⟩:=res;obtain ⟨_,_,_,_⟩:=a1;obtain ⟨_,_,_,_⟩:=a2;obtain ⟨_,_,_,_⟩:=a3;obtain ⟨_,_,_,_⟩:=a4;obtain ⟨_,_,_,_⟩:=a5
  obtain ⟨_,_,_,_⟩:=a6;obtain ⟨_,_,_,_⟩:=a7;obtain ⟨_,_,_,_⟩:=a8;obtain ⟨_,_,_,_⟩:=a9;obtain ⟨_,_,_,_⟩:=a10;obtain ⟨_,_,_,_⟩:=a11
  simp only [QQ.v_eq] at *
  repeat' (first|(refine zsk ?_;intro K' hK)|(refine zrg ?_;intro K' hK)|refine zsp ?_|(refine zsc ?_ ?_<;>intro hc<;>first|exact znh|try simp only [znz] at hc)|simp (maxSteps:=1000000) only [go_sem,Qi.cells,hln,e1,htn,V.shutOk0,VL,V.shut0,KM,ntL,not_false_eq_true,List.getElem?_cons_zero,List.getElem?_cons_succ]|(refine hK _ ?_;clear hK K')|apply zan|(apply amE;(focus first|exact n1|exact l1))|(apply amG;(focus first|exact n1|exact l1);(focus first|exact rfl|decide))|((first|apply Ju|apply QZ);(focus first|exact i1|exact i2|exact i3|exact i4|exact i5|exact t1|exact t2|exact u1|exact u2|exact b1|exact (z0 _ zsd).b|exact (z1 _ zsd zsd).b|exact (z2 _ _ zsd zsd zsd zsd).b|exact (z3 _).b|exact (z4 _ zsd).b))|exact zsq|fail)
  all_goals exact zr
 ·obtain ⟨hk',hget,hr⟩:=Qf hd
  have hw:=Qc (k:=k) (by omega)
  have e1:decide ((k:Int) < ((c.names.length:Nat):Int)) = true:=by simp;omega
  have hy:=hc.l4 y (zk hget)
  have ty:=(z0 y (by omega)).b
  simp only [arD,stL]
  simp only [wT,QQ.v_eq] at ty
  (have zx:=za hln (za e1 (za hw hget)));refine zgo ?_;repeat' first|exact zt|apply zan|intro hc
  all_goals
   refine hL _ (k + 1) hk' (by omega) (ais [0,1,2,3,13005] none (fun p hp=>?_) ?_ (by simp) (by rw [hm];rfl))
   ·simp only [zn,zw,or_false] at hp
    rcases hp with rfl|rfl|rfl|rfl
    ·show conv _ _ _ (.ptr 0 0) (.ptr 0 0)
     simp [conv]
    ·show conv _ _ _ (.ptr 1 0) (.ptr 1 0)
     simp [conv]
    ·show conv _ _ _ (.hd 13005 0 (k + 1)) (.hd 4 0 (k + 1))
     simp [conv]
    ·exact Qr _ _ _ (V.int (k + 1:Nat)) trivial
   ·refine ⟨⟨_,rfl,fun h=>h,Qg _ _ _ _ hcl⟩,⟨_,rfl,fun h=>h,by show Qz _ _ _ [_,_,_,_] _;simp [Qz,conv,V.int,V.bool]⟩,⟨_,rfl,fun h=>h,rfl,rfl⟩,⟨_,rfl,fun h=>h,rfl,rfl⟩,⟨_,rfl,fun h=>h,rfl,?_,yV _⟩,trivial⟩
    have hA:List.take k (((c.names.take k).map wT).map QQ.v) = ((c.names.take k).map wT).map QQ.v:=zb (by rw [zh,zh,zJ];omega)
    have hB:c.names.take (k + 1) = c.names.take k++[y]:=by rw [zy,hget];rfl
    rw [hB,zD,zD]
    show Kg _ _ _ (List.take k (((c.names.take k).map wT).map QQ.v)++[V.agg [V.int 12,.sl 1 (jk y),V.bool false,.sl 4 []]]) _
    rw [hA]
    refine aae ?_ _
    show Kg _ _ _ _ [QQ.v (wT y)]
    rw [wT,QQ.v_eq]
    exact ⟨Qg _ _ _ _ ⟨trivial,trivial,trivial,trivial,trivial⟩,trivial⟩
theorem am2 (l:List (List UInt8)):List.take l.length (l.map V.str) = l.map V.str:=zb (by simp)
def aeB (c:Qi):V:=if WI c = false then .tup [.sl 1 [],V.int 9] else aoF (vO c)
theorem afB (c:Qi):(aeB c).closed:=by
 unfold aeB
 split
 ·simp only [V.closed,Qa,and_self]
 ·exact acP _
def aqe (x:QQ):List UInt8:=if x.fB = false then [] else if x.dep > 16 then [] else if x.pB.length > 4096 then [] else x.pB
theorem amf (x:QQ):∃ n:Int,aoF x = .tup [.sl 1 (jk (aqe x)),V.int n]:=by
 unfold aoF aqe
 repeat' split
 all_goals exact ⟨_,rfl⟩
theorem anQ (x:QQ):(aqe x).length≤4096:=by
 unfold aqe
 repeat' split
 all_goals first|exact zu _|omega
def K1:=qd Proofs.Tryz.f205 []
def U2 (Γ:Env) (f:Nat):Prop:=∀ (c:Qi) (hn:c.names.length < 2 ^ 30),EvC Γ f [c.v] (c.v)
attribute [local go_sem] Qi.cells in
theorem aff {Γ:Env} {f:Nat} (h:Has Γ.P f 9 K1.1.1.ac K1.1.2) :U2 Γ f:=by
 intro c hn
 refine Qn h zsi (by simp only [Qi.v,Qi.cells,V.closed,Qa,and_self]) fun C hC hm=>?_
 subst hC
 simp only [K1,qd,DC.ac]
 have htk:=am2 c.names
 have hln:(c.names.map V.str).length = c.names.length:=zh _
 simp only [Qi.v]
 (have zx:=za htk hln);refine zgo ?_;repeat' first|exact zt|apply zan|intro hc
 all_goals first|exact zr|(refine Qd _ rfl ?_;simp only [go_sem,Qi.cells,htk];done)
def US:=qd Proofs.Tryz.f206 []
def qX (Γ:Env) (f:Nat):Prop:=∀ (c:Qi) (hc:c.T),EvC Γ f [c.v] (aeB c)
attribute [local go_sem] Qi.cells in
theorem adx {Γ:Env} {f:Nat} (h:Has Γ.P f 12 US.1.1.ac US.1.2) (z0:X9 Γ 124) (z1:yl Γ 241) (z2:Ks Γ 240):qX Γ f:=by
 intro c hc
 refine Qn h zsi (afB _) fun C hC hm=>?_
 subst hC
 simp only [US,qd,DC.ac]
 have l1:=hc.l1
 have l2:=hc.l2
 have l3:=hc.l3
 have ck:=(z0 c (by omega) (by omega) (by omega) (fun x hx=>by have:=hc.l4 x hx;omega)).b
 have bd:=(z1 c hc).b
 have bs:=ahg hc
 have en:=(z2 (vO c) (by omega)).b
 simp only [Qi.v,Qi.cells] at ck bd ⊢
 rw [aeB]
 cases hq:WI c with
 | false =>
   rw [if_pos rfl]
   rw [hq,if_neg (by decide)] at ck
   exact zg
 | true =>
   rw [if_neg (by decide)]
   rw [hq,if_pos rfl] at ck
   obtain ⟨n,hn⟩:=amf (vO c)
   rw [hn] at en ⊢
   generalize vO c = x at *
   obtain ⟨_,_,_,_⟩:=x
   rw [QQ.v_eq] at *
   exact zg
def bare (c:Qi):Qi:={ c with skey:=0,ssum:=0 }
def afX:Qi:=⟨0,[],[],0,0,0,0,0,0,0,false,0,[],0,0⟩
def ak7 (c:Qi) (key:Int):Bool:=WI (bare c) && (decide (key≥0) && decide (key≤2147483648))
def adc (c:Qi) (key:Int):Qi:=if ak7 c key = true then { c with skey:=key,ssum:=am4 (aqe (vO (bare c))) } else afX
def ao2 (c:Qi) (key:Int):Int:=if ak7 c key = true then 0 else 9
theorem aqT {c:Qi} (h:c.T):(bare c).T:=⟨h.i1,h.i2,h.i3,h.i4,h.i5,h.i6,h.i7,h.i8,h.i9,h.l1,h.l2,h.l3,h.l4⟩
theorem Vy (c:Qi):c.v.closed:=by simp only [Qi.v,Qi.cells,V.closed,Qa,and_self]
def KY:=qd Proofs.Tryz.f171 []
def ym (Γ:Env) (f:Nat):Prop:=∀ (c:Qi) (key:Int) (hc:c.T),EvC Γ f [c.v,V.int key] (.tup [(adc c key).v,V.int (ao2 c key)])
attribute [local go_sem] Qi.cells in
theorem afc {Γ:Env} {f:Nat} (h:Has Γ.P f 35 KY.1.1.ac KY.1.2) (z0:U2 Γ 205) (z1:X9 Γ 124) (z2:qX Γ 206) (z3:xw Γ 207):ym Γ f:=by
 intro c key hc
 refine Qn h zsi (⟨Vy _,trivial,trivial⟩) fun C hC hm=>?_
 subst hC
 simp only [KY,qd,DC.ac]
 have l1:=hc.l1
 have l2:=hc.l2
 have l3:=hc.l3
 have hb:=aqT hc
 have cp:=(z0 c (by omega)).b
 have ck:=(z1 (bare c) (by show c.issuer.length < _;omega) (by show c.subject.length < _;omega) (by show c.names.length < _;omega) (fun x hx=>by have:=hc.l4 x hx;omega)).b
 have by9:=(z2 (bare c) hb).b
 have sm:=(z3 (aqe (vO (bare c))) (by have:=anQ (vO (bare c));omega)).b
 have hvb:(bare c).v = .agg [V.int c.serial,V.str c.issuer,V.str c.subject,V.int c.kalg,V.int c.kbits,V.int c.kid,V.int c.halg,V.int c.hbits,V.int c.from_,V.int c.to_,V.bool c.auth,V.int c.path,.sl 1 (c.names.map V.str),V.int 0,V.int 0]:=rfl
 rw [hvb] at ck by9
 simp only [Qi.v,Qi.cells] at cp ⊢
 cases hq:WI (bare c) with
 | false =>
   have hs:ak7 c key = false:=by rw [ak7,hq];rfl
   rw [hq,if_neg (by decide)] at ck
   simp only [adc,ao2,hs,afX,zo]
   exact zg
 | true =>
   rw [hq,if_pos rfl] at ck
   have hby:aeB (bare c) = aoF (vO (bare c)):=by rw [aeB,hq,if_neg (by decide)]
   rw [hby] at by9
   obtain ⟨n,hn⟩:=amf (vO (bare c))
   rw [hn] at by9
   rcases h1:decide (key≥0) with _|_<;>rcases h2:decide (key≤2147483648) with _|_
   all_goals
    have g1:decide (key < 0) = !decide (key≥0):=by by_cases h:key < 0<;>simp [h]<;>omega
    have g2:decide (key > 2147483648) = !decide (key≤2147483648):=by by_cases h:key > 2147483648<;>simp [h]<;>omega
    have hs:ak7 c key = (WI (bare c) && (decide (key≥0) && decide (key≤2147483648))):=rfl
    rw [hq,h1,h2] at hs
    rw [h1] at g1
    rw [h2] at g2
    simp only [zS,zG,kf,kR,kE] at hs g1 g2
    simp only [adc,ao2,hs,afX,zo,if_true,if_false,zj]
    (have zx:=za g1 g2);exact zg
structure Qs where
 alias:List UInt8
 kalg:Int
 kbits:Int
 kid:Int
 secret:Bool
 chain:List Qi
def Qs.cells (x:Qs):List V:=[V.str x.alias,V.int x.kalg,V.int x.kbits,V.int x.kid,V.bool x.secret,.sl 15 (x.chain.map Qi.v)]
def Qs.v (x:Qs):V:=.agg x.cells
structure Qs.Sm (x:Qs):Prop where
 hl:x.alias.length < 2 ^ 60
 hc:x.chain.length < 2 ^ 30
 hs:∀ c∈x.chain,c.Sm
 hn:∀ c∈x.chain,c.names.length < 2 ^ 30
def Qs.ok (x:Qs):Bool:=QJ x.alias && X7 x.kalg x.kbits x.kid x.chain
def Qs.lt (x y:Qs):Bool:=Op.bytesLess x.alias y.alias
def yB (l:List Qs):Bool:=okP Qs.ok Qs.lt l l.length && decide ((l.length:Int)≤64)
def Wi:=qd Proofs.Tryz.f92 [zhn 29]
def VG (Γ:Env) (f:Nat):Prop:=∀ (l:List Qs) (hl:l.length < 2 ^ 60) (hs:∀ x∈l,x.Sm),EvN Γ f [.sl 6 (l.map Qs.v)] (V.int (if yB l = true then 0 else 16))
attribute [local go_sem] Qs.cells Qs.v in
theorem aaC {Γ:Env} {f:Nat} (h:Has Γ.P f 45 Wi.1.1.ac Wi.1.2) (z0:YX Γ 131) (z1:XX Γ 51):VG Γ f:=by
 intro l hl hs
 refine Qb h zsi zcl zcl fun C hC hm=>?_
 subst hC
 simp only [Wi,qd,DC.ac]
 have hlm:(l.map Qs.v).length = l.length:=zh _
 (have zx:=hlm);refine zgo ?_;repeat' first|exact zt|apply zan|intro hc
 refine Qp (ι:=Nat) (fun k=>k≤l.length∧okP Qs.ok Qs.lt l k = true) (fun k=>[(7,V.int k)]) (fun k=>l.length - k) 0 (by omega) ⟨zu _,rfl⟩ zol zlt zet fun k hk K' hL=>?_
 obtain ⟨hk,hinv⟩:=hk
 simp only [ovT,Je,Nat.reduceEqDiff,reduceIte]
 rcases hd:l.drop k with _|⟨x,r⟩
 ·have hkl:=Qj hd
  have e1:decide ((k:Int) < ((l.length:Nat):Int)) = false:=by simp;omega
  have hkk:k = l.length:=by omega
  subst hkk
  by_cases h64:l.length > 64
  ·have e2:decide ((l.length:Int) > 64) = true:=by simp;omega
   have e3:decide ((l.length:Int)≤64) = false:=by simp;omega
   rw [if_neg (by rw [yB,hinv,e3];decide)]
   (have zx:=za e1 (za hlm e2));exact zg
  ·have e2:decide ((l.length:Int) > 64) = false:=by simp;omega
   have e3:decide ((l.length:Int)≤64) = true:=by simp;omega
   rw [if_pos (by rw [yB,hinv,e3];rfl)]
   (have zx:=za e1 (za hlm e2));exact zg
 ·obtain ⟨hk',hget,hr⟩:=Qf hd
  have hw:=Qc (k:=k) (by omega)
  have e1:decide ((k:Int) < ((l.length:Nat):Int)) = true:=by simp;omega
  have sm:=hs x (zk hget)
  have hnx:=(z0 x.alias sm.hl).b
  have hsh:=(z1 x.kalg x.kbits x.kid x.chain (Nat.lt_trans sm.hc (by decide)) sm.hs).b
  have hbad:okP Qs.ok Qs.lt l (k + 1) = false→¬ yB l = true:=fun h=>by rw [yB,wo h (by omega),zB];decide
  rcases hx:QJ x.alias with _|_
  ·have hb:okP Qs.ok Qs.lt l (k + 1) = false:=by rw [VM,hget];simp [Qs.ok,hx]
   rw [if_neg (hbad hb)]
   rw [hx] at hnx
   (have zx:=za e1 (za hw (za hlm hget)));exact zg
  rw [hx] at hnx
  rcases k with _|k
  ·have hw0:IntKind.i64.wrap 1 = ((1:Nat):Int):=by decide
   have e2:decide (((0:Nat):Int) > 0) = false:=rfl
   have h1:okP Qs.ok Qs.lt l (0 + 1) = X7 x.kalg x.kbits x.kid x.chain:=by rw [wm hget,Qs.ok,hx,zA]
   rcases hq:X7 x.kalg x.kbits x.kid x.chain with _|_
   ·rw [if_neg (hbad (by rw [h1,hq]))]
    rw [hq] at hsh
    (have zx:=za e1 (za e2 (za hw (za hw0 (za hlm hget)))));exact zg
   ·rw [hq] at hsh
    (have zx:=za e1 (za e2 (za hw (za hw0 (za hlm hget)))));refine zgo ?_;repeat' first|exact zt|apply zan|intro hc
    all_goals exact hL _ 1 zet ⟨by omega,by rw [h1,hq]⟩ (by omega) zoe
  ·have e2:decide (((k + 1:Nat):Int) > 0) = true:=zl (by omega)
   have hw2:IntKind.i64.wrap (((k + 1:Nat):Int) - 1) = (k:Int):=by rw [Q9 (by omega) (by omega)];omega
   obtain ⟨y,hgy⟩:∃ y,l[k]? = some y:=⟨_,ze (by omega)⟩
   have hnext:=jE (p:=Qs.ok) (q:=Qs.lt) hget hgy
   rw [hinv,Qs.ok,hx,zA,zA,Qs.lt] at hnext
   rcases hb:Op.bytesLess y.alias x.alias with _|_
   ·rw [if_neg (hbad (by rw [hnext,hb,zG]))]
    (have zx:=za e1 (za e2 (za hw (za hw2 (za hlm (za hget (za hgy hb)))))));exact zg
   ·rw [hb,zS] at hnext
    rcases hq:X7 x.kalg x.kbits x.kid x.chain with _|_
    ·rw [if_neg (hbad (by rw [hnext,hq]))]
     rw [hq] at hsh
     (have zx:=za e1 (za e2 (za hw (za hw2 (za hlm (za hget (za hgy hb)))))));exact zg
    ·rw [hq] at hsh
     (have zx:=za e1 (za e2 (za hw (za hw2 (za hlm (za hget (za hgy hb)))))));refine zgo ?_;repeat' first|exact zt|apply zan|intro hc
     all_goals exact hL _ (k + 2) zet ⟨by omega,by rw [hnext,hq]⟩ (by omega) zoe
def UQ:=qd Proofs.Tryz.f25 [zhn 44]
def qW (Γ:Env) (f:Nat):Prop:=∀ (l:List Qs) (hl:l.length < 2 ^ 60) (hs:∀ x∈l,x.Sm),EvN Γ f [.sl 6 (l.map Qs.v)] (V.int (if yB l = true then 0 else 16))
attribute [local go_sem] Qs.cells Qs.v in
theorem adv {Γ:Env} {f:Nat} (h:Has Γ.P f 57 UQ.1.1.ac UQ.1.2) (z0:U1 Γ 73) (z1:V5 Γ 60):qW Γ f:=by
 intro l hl hs
 refine Qb h zsi zcl zcl fun C hC hm=>?_
 subst hC
 simp only [UQ,qd,DC.ac]
 have hlm:(l.map Qs.v).length = l.length:=zh _
 by_cases h64:l.length > 64
 ·have e2:decide ((l.length:Int) > 64) = true:=by simp;omega
  have e3:decide ((l.length:Int)≤64) = false:=by simp;omega
  rw [if_neg (by rw [yB,e3,zG];decide)]
  (have zx:=za hlm e2);exact zg
 have e2:decide ((l.length:Int) > 64) = false:=by simp;omega
 have e3:decide ((l.length:Int)≤64) = true:=by simp;omega
 (have zx:=za hlm e2);refine zgo ?_;repeat' first|exact zt|apply zan|intro hc
 refine Qp (ι:=Nat) (fun k=>k≤l.length∧okP Qs.ok Qs.lt l k = true) (fun k=>[(3,V.int k)]) (fun k=>l.length - k) 0 (by omega) ⟨zu _,rfl⟩ zol zlt zet fun k hk K' hL=>?_
 obtain ⟨hk,hinv⟩:=hk
 simp only [ovT,Je,Nat.reduceEqDiff,reduceIte]
 rcases hd:l.drop k with _|⟨x,r⟩
 ·have hkl:=Qj hd
  have e1:decide ((k:Int) < ((l.length:Nat):Int)) = false:=by simp;omega
  have hkk:k = l.length:=by omega
  subst hkk
  rw [if_pos (by rw [yB,hinv,e3];rfl)]
  (have zx:=za e1 hlm);exact zg
 ·obtain ⟨hk',hget,hr⟩:=Qf hd
  have hw:=Qc (k:=k) (by omega)
  have e1:decide ((k:Int) < ((l.length:Nat):Int)) = true:=by simp;omega
  have sm:=hs x (zk hget)
  have hnx:=(z0 x.alias sm.hl).b
  have hsh:=(z1 x.kalg x.kbits x.kid x.chain (Nat.lt_trans sm.hc (by decide)) sm.hs).b
  have hbad:okP Qs.ok Qs.lt l (k + 1) = false→¬ yB l = true:=fun h=>by rw [yB,wo h (by omega),zB];decide
  rcases hx:QJ x.alias with _|_
  ·have hb:okP Qs.ok Qs.lt l (k + 1) = false:=by rw [VM,hget];simp [Qs.ok,hx]
   rw [if_neg (hbad hb)]
   rw [hx] at hnx
   (have zx:=za e1 (za hw (za hlm hget)));exact zg
  rw [hx] at hnx
  rcases k with _|k
  ·have hw0:IntKind.i64.wrap 1 = ((1:Nat):Int):=by decide
   have e2:decide (((0:Nat):Int) > 0) = false:=rfl
   have h1:okP Qs.ok Qs.lt l (0 + 1) = X7 x.kalg x.kbits x.kid x.chain:=by rw [wm hget,Qs.ok,hx,zA]
   rcases hq:X7 x.kalg x.kbits x.kid x.chain with _|_
   ·rw [if_neg (hbad (by rw [h1,hq]))]
    rw [hq] at hsh
    (have zx:=za e1 (za e2 (za hw (za hw0 (za hlm hget)))));exact zg
   ·rw [hq] at hsh
    (have zx:=za e1 (za e2 (za hw (za hw0 (za hlm hget)))));refine zgo ?_;repeat' first|exact zt|apply zan|intro hc
    all_goals exact hL _ 1 zet ⟨by omega,by rw [h1,hq]⟩ (by omega) zoe
  ·have e2:decide (((k + 1:Nat):Int) > 0) = true:=zl (by omega)
   have hw2:IntKind.i64.wrap (((k + 1:Nat):Int) - 1) = (k:Int):=by rw [Q9 (by omega) (by omega)];omega
   obtain ⟨y,hgy⟩:∃ y,l[k]? = some y:=⟨_,ze (by omega)⟩
   have hnext:=jE (p:=Qs.ok) (q:=Qs.lt) hget hgy
   rw [hinv,Qs.ok,hx,zA,zA,Qs.lt] at hnext
   rcases hb:Op.bytesLess y.alias x.alias with _|_
   ·rw [if_neg (hbad (by rw [hnext,hb,zG]))]
    (have zx:=za e1 (za e2 (za hw (za hw2 (za hlm (za hget (za hgy hb)))))));exact zg
   ·rw [hb,zS] at hnext
    rcases hq:X7 x.kalg x.kbits x.kid x.chain with _|_
    ·rw [if_neg (hbad (by rw [hnext,hq]))]
     rw [hq] at hsh
     (have zx:=za e1 (za e2 (za hw (za hw2 (za hlm (za hget (za hgy hb)))))));exact zg
    ·rw [hq] at hsh
     (have zx:=za e1 (za e2 (za hw (za hw2 (za hlm (za hget (za hgy hb)))))));refine zgo ?_;repeat' first|exact zt|apply zan|intro hc
     all_goals exact hL _ (k + 2) zet ⟨by omega,by rw [hnext,hq]⟩ (by omega) zoe
def aqg (c:UInt8):Bool:=(decide ((c.toNat:Int) < 97) || decide ((c.toNat:Int) > 122)) && ((decide ((c.toNat:Int) < 65) || decide ((c.toNat:Int) > 90)) && ((decide ((c.toNat:Int) < 48) || decide ((c.toNat:Int) > 57)) && (((c.toNat:Int) != 45) && (((c.toNat:Int) != 95) && ((c.toNat:Int) != 46)))))
theorem an4 (c:UInt8):akN c [45,95,46] = !aqg c:=by
 have h:∀ n,n < 256→akN (UInt8.ofNat n) [45,95,46] = !aqg (UInt8.ofNat n):=by decide +kernel
 have:=h c.toNat (UInt8.toNat_lt c)
 rwa [UInt8.ofNat_toNat] at this
theorem alD {α:Type} (p:α→Bool) (q:α→α→Bool) (l:List α):∀ k,k≤l.length→okP p q l k = (okP yes q l k && (l.take k).all p)
 | 0,_=>rfl
 | k + 1,h=>by
   have hx:l[k]? = some (l[k]'(by omega)):=ze (by omega)
   rw [VM,VM,alD p q l k (by omega),zy,hx,Zq]
   generalize l[k] = x
   simp only [Option.toList_some,List.all_cons,List.all_nil,zS,yes,zA]
   generalize (k == 0 || match l[k - 1]? with|some y=>q y x|none=>false) = A
   cases okP yes q l k<;>cases (List.take k l).all p<;>cases p x<;>cases A<;>rfl
theorem aeU {α:Type} (p:α→Bool) (q:α→α→Bool) (l:List α):okP p q l l.length = (okP yes q l l.length && l.all p):=by
 rw [alD p q l _ (zi _),zR]
theorem af6 {l:List Int} (h:Xl l = true):l.length≤16:=by
 simp only [Xl,zv,Zg,zL] at h
 refine alM h.2 fun x hx=>?_
 have:=List.any_eq_false.1 h.1 x hx
 simp [ajv] at this;omega
def KV:=qd Proofs.Tryz.f57 []
def U0 (Γ:Env) (f:Nat):Prop:=∀ (s:List UInt8) (hs:s.length < 2 ^ 30),EvN Γ f [V.str s] (V.bool (jb s))
theorem ae9 {Γ:Env} {f:Nat} (h:Has Γ.P f 56 KV.1.1.ac KV.1.2) :U0 Γ f:=by
 intro s hs
 refine Qb h zsi zcl zcl fun C hC hm=>?_
 subst hC
 simp only [KV,qd,DC.ac]
 by_cases h1:s.length < 1
 ·have e1:decide ((s.length:Int) < 1) = true:=zl (by omega)
  have hw:jb s = false:=by rw [jb,zm (by omega:¬ (s.length:Int)≥1)];simp
  rw [hw]
  (have zx:=e1);exact zg
 have e1:decide ((s.length:Int) < 1) = false:=zm (by omega)
 by_cases h2:s.length > 32
 ·have e2:decide ((s.length:Int) > 32) = true:=zl (by omega)
  have hw:jb s = false:=by rw [jb,zm (by omega:¬ (s.length:Int)≤32)];simp
  rw [hw]
  (have zx:=za e1 e2);exact zg
 have e2:decide ((s.length:Int) > 32) = false:=zm (by omega)
 have hwb:jb s = s.all (fun c=>akN c [45,95,46]):=by rw [jb,zl (by omega:(s.length:Int)≥1),zl (by omega:(s.length:Int)≤32)];simp
 rw [hwb]
 (have zx:=za e1 e2);refine zgo ?_;repeat' first|exact zt|apply zan|intro hc
 refine Qp (ι:=Nat) (fun k=>k≤s.length∧(s.take k).all (fun c=>akN c [45,95,46]) = true) (fun k=>[(3,V.int k)]) (fun k=>s.length - k) 0 (by omega) ⟨zu _,rfl⟩ zol zlt zet fun k hk K' hL=>?_
 obtain ⟨hk,hinv⟩:=hk
 simp only [ovT,Je,Nat.reduceEqDiff,reduceIte]
 rcases hd:s.drop k with _|⟨c,r⟩
 ·have hkl:=Qj hd
  rw [zb hkl] at hinv
  have e3:decide ((k:Int) < ((s.length:Nat):Int)) = false:=by simp;omega
  rw [hinv]
  (have zx:=e3);exact zg
 ·obtain ⟨hk',hget,hr⟩:=Qf hd
  have hw:=Qc (k:=k) (by omega)
  have e3:decide ((k:Int) < ((s.length:Nat):Int)) = true:=by simp;omega
  have hb:=an4 c
  have hf:aqg c = true→s.all (fun c=>akN c [45,95,46]) = false:=fun h=>ko.2 ⟨c,zk hget,by rw [hb,h];decide⟩
  have hg:aqg c = false→(s.take (k + 1)).all (fun c=>akN c [45,95,46]) = true:=fun h=>vR hget hinv (by rw [hb,h];rfl)
  (have zx:=za e3 (za hw hget));refine zgo ?_;repeat' first|exact zt|apply zan|intro hc
  all_goals first|(rw [hf]<;>first|(simp [aqg, *];done)|exact zr)|exact hL _ (k + 1) zet ⟨by omega,hg (by simp [aqg, *])⟩ (by omega) zoe
end Av
end
