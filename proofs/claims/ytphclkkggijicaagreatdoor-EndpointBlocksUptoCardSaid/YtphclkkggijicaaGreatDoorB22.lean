/- B22 -/
import Derived.Test.YtphclkkggijicaaGreatDoorB21
import Derived.Test.YtphclkkggijicaaGreatDoorB12
set_option linter.unusedVariables false
set_option linter.unusedSimpArgs false
noncomputable section
set_option maxRecDepth 10000
set_option maxHeartbeats 4000000
namespace Av
open Go
attribute [local irreducible] AWp W7 Kx jy awS awC vE awQ aay QP W6 vu awR Vn awB okR jx ris
def apn:Nat→Nat→List UInt8→List UInt8
 | 0,_,b=>b
 | k + 1,n,b=>if n = 0 then b else apn k (n / 256) (u8i ((n % 256:Nat):Int) :: b)
def beB (n:Nat):List UInt8:=apn 8 n []
def akL (n:Nat):List UInt8:=if n < 128 then [u8i n] else u8i ((128 + (beB n).length:Nat):Int) :: beB n
theorem aj2:∀ (k n:Nat) (b:List UInt8),(apn k n b).length≤k + b.length
 | 0,_,b=>by rw [apn];omega
 | k + 1,n,b=>by
   rw [apn];split
   ·omega
   ·have:=aj2 k (n / 256) (u8i ((n % 256:Nat):Int) :: b)
    rw [List.length_cons] at this;omega
theorem aqA (n:Nat):(beB n).length≤8:=aj2 8 n []
theorem ajC (n:Nat):(akL n).length≤9:=by
 have:=aqA n
 rw [akL];split
 ·simp
 ·rw [List.length_cons];omega
theorem jL (t:List UInt8):List.take t.length (t.map fun c=>V.sc (.int .u8 c.toNat)) = t.map fun c=>V.sc (.int .u8 c.toNat):=zb (by simp)
def Un:=qd Proofs.Tryz.f287 []
def KL (Γ:Env) (f:Nat):Prop:=∀ (n:Nat) (hn:n < 2 ^ 60),EvC Γ f [V.int n] (.sl 1 (jF (akL n)))
attribute [local go_sem] j9 Yo in
theorem ac4 {Γ:Env} {f:Nat} (h:Has Γ.P f 26 Un.1.1.ac Un.1.2) :KL Γ f:=by
 intro n hn
 refine Qn h zsi zcl fun C hC hm=>?_
 subst hC
 simp only [Un,qd,DC.ac]
 have hu:=ae6
 by_cases h1:n < 128
 ·have e1:decide ((n:Int) < 128) = true:=by simp;omega
  have hl:akL n = [u8i n]:=by rw [akL,if_pos h1]
  rw [hl]
  (have zx:=za e1 hu);exact zg
 ·have e1:decide ((n:Int) < 128) = false:=by simp;omega
  have hl:akL n = u8i ((128 + (beB n).length:Nat):Int) :: beB n:=by rw [akL,if_neg h1]
  rw [hl]
  (have zx:=e1);refine zgo ?_;repeat' first|exact zt|apply zan|intro hc
  have hp8:(256:Nat) ^ 8 = 18446744073709551616:=by decide
  refine Qz (ι:=Nat×Nat×List UInt8) (fun q=>apn q.1 q.2.1 q.2.2 = beB n∧q.2.1 < 256 ^ q.1∧q.2.2.length + q.1 = 8∧q.2.1≤n) (fun q=>Yo [(0,V.int q.2.1),(3,.hd 0 0 q.2.2.length)] [(0,.buf true 1 (jF q.2.2))] 1) (fun q=>q.1) (8,n,[]) ⟨rfl,by simp only [hp8];omega,rfl,zi _⟩ (Qp [(0,3000)]) (JS [(0,3000)] (by simp only [go_sem,zwl,List.length_nil]<;>exact zcc) (by simp only [go_sem,zwl,jF,zl]<;>exact zcc) (by simp [Qp]) (by simp;omega) (by omega)) fun q hq K' hL=>?_
  obtain ⟨j,m,c⟩:=q
  simp only at hq hL ⊢
  obtain ⟨g1,g2,g3,g4⟩:=hq
  have htk:=jL c
  by_cases hm0:m = 0
  ·subst hm0
   have g1:c = beB n:=by
    rw [← g1]
    cases j with
    | zero=>rfl
    | succ j=>rw [apn,if_pos rfl]
   subst g1
   have hgt:decide (((0:Nat):Int) > 0) = false:=rfl
   have hlb:(128:Int) + ((beB n).length:Int) = ((128 + (beB n).length:Nat):Int):=by omega
   have hw1:IntKind.i64.wrap ((128 + (beB n).length:Nat):Int) = ((128 + (beB n).length:Nat):Int):=Jc (by omega) (by omega)
   (have zx:=za hgt (za hlb (za hw1 (za hu htk))));refine zgo ?_;repeat' first|exact zt|apply zan|intro hc
   all_goals (refine Qf _ rfl ?_;simp only [go_sem,jF,zm,Zk 1,zh,List.take_succ_cons,ku,htk];done)
  ·rcases j with _|j
   ·rw [Nat.pow_zero] at g2;omega
   have hgt:decide ((m:Int) > 0) = true:=by simp;omega
   have e3:((m:Int).tmod 256) = ((m % 256:Nat):Int):=by rw [Int.tmod_eq_emod_of_nonneg (by omega)];omega
   have e4:IntKind.i64.wrap ((m:Int).tdiv 256) = ((m / 256:Nat):Int):=by rw [Int.tdiv_eq_ediv_of_nonneg (by omega)];rw [Jc (by omega) (by omega)];omega
   rw [apn,if_neg hm0] at g1
   rw [Nat.pow_succ] at g2
   (have zx:=za hgt (za e3 (za e4 (za hu htk))));refine zgo ?_;repeat' first|exact zt|apply zan|intro hc
   all_goals exact hL _ (j,m / 256,u8i ((m % 256:Nat):Int) :: c) (Qp [(0,7001)]) ⟨g1,Nat.div_lt_of_lt_mul (by rw [Nat.mul_comm];exact g2),by simp only [List.length_cons];omega,kD (Nat.div_le_self _ _) g4⟩ (kf _) (JS [(0,7001)] (by simp only [go_sem,zwl,jF,zm,List.length_cons,zh,Zk 1]<;>exact zcc) (by simp only [go_sem,zwl,jF,zm]<;>exact zcc) (by simp [Qp]) (by simp;omega) (by omega))
mutual
def QY.pB:QY→List UInt8
 | .mk t b _ es=>u8i t :: (akL (b++pL es).length++(b++pL es))
def pL:List QY→List UInt8
 | []=>[]
 | x :: r=>x.pB++pL r
end
mutual
theorem alX:∀ x:QY,x.pB.length≤10 * x.siz
 | .mk t b _ es=>by
   have:=ao9 es
   have h2:=ajC (b++pL es).length
   rw [QY.pB,QY.siz,List.length_cons,zF]
   rw [zF] at *
   omega
theorem ao9:∀ es:List QY,(pL es).length≤10 * wK es
 | []=>zi _
 | x :: r=>by have:=alX x;have:=ao9 r;rw [pL,wK,zF];omega
end
theorem apR {es:List QY} {k:Nat} {y:QY} (h:es[k]? = some y):pL (es.take (k + 1)) = pL (es.take k)++y.pB:=by
 induction es generalizing k with
 | nil=>simp at h
 | cons x r ih =>
   cases k with
   | zero=>simp at h;subst h;simp [pL]
   | succ k=>rw [List.take_succ_cons,List.take_succ_cons,pL,pL,ih (by simpa using h),zW]
theorem akv (es:List QY) (k:Nat):(pL (es.take k)).length≤10 * wK es:=by
 induction es generalizing k with
 | nil=>simp [pL]
 | cons x r ih =>
   cases k with
   | zero=>simp [pL]
   | succ k=>have:=ih k;have:=alX x;rw [List.take_succ_cons,pL,wK,zF];omega
def aaz:List (List Nat):=[[],[0],[1],[2],[],[4],[5],[3,6,6],[],[7,8,7],[9,9,0,1,2,3,4,5,6,7,8,9]]
def vJ:OT:=och 0 11
@[go_sem] def jT (Ja:Nat):OP:=oN 0 (fa 24 0 1) (oN 1 (ld 25 1 24) (oN 2 (xo 26 (.convI .u8 (.t 25))) (oN 3 (xo 27 (.bslice 1 1 false [(.int .u8 0)] [(0,(.t 26))])) (oN 4 (mv 28 3) (oN 5 (ln 29 28) (oN 6 (cl 30 Ja [29]) (.one 7 true [6,3] (xo 31 (.append 1 1 [(.int .u8 0)] (.t 27) (.t 30))) (oN 8 (mv 32 3) (.one 9 true [7,6,3] (xo 33 (.append 1 1 [(.int .u8 0)] (.t 31) (.t 32))) (oN 10 (mv 2 33) .done))))))))))
def vT (Ja:Nat):List AO:=aoO (jT Ja)
instance (Ja:Nat):RG [] vJ (jT Ja) (vT Ja) aaz 11 (fun _=>true):=⟨rfl,by kernel_rfl,by kernel_rfl⟩
def vr (aiT Ja:Nat):AC:=Ue [1] (.reg [xo 1 (.box true 4 (.t 0)),xo 2 (.mknil 1)]) (Ue [1,3] (.reg [xo 5 (.bslice 0 1 false [(.int .u8 0)] []),fa 6 1 1,ld 7 1 6,xo 8 (.append 1 1 [(.int .u8 0)] (.t 5) (.t 7)),mv 3 8]) (Ue [1,3] (Ue [1,3,4] (.reg [mc 4 (V.int 0)]) (.block 0 (afn [1,3,4] (Ue [1,3,4] (Ue [1,3,4,13] (.reg [mv 9 4,fa 10 3 1,ld 11 1 10,ln 12 11,bn 13 .lss 9 12]) (.cond (.t 13) .skip (.exit 0))) (Ue [1,3,4] (.block 1 (.reg [mv 16 3,fa 17 3 1,ld 18 1 17,mv 19 4,ia 20 4 18 19,xo 21 (.load true 4 (.t 20)),cl 22 aiT [21],xo 23 (.append 1 1 [(.int .u8 0)] (.t 16) (.t 22)),mv 3 23])) (.reg [mv 14 4,bc 15 .add 14 (V.int 1),mv 4 15])))))) (Ue [2] (apO [] vJ (jT Ja) (vT Ja) aaz) .ret))) def Zx:List Uc:=[.tmp 2]
def wb (Γ:Env) (f:Nat):Prop:=∀ (x:QY) (hx:x.siz < 2 ^ 35),EvC Γ f [x.v] (.sl 1 (jF x.pB))
attribute [local go_sem] zh QY.v_eq j9 Yo in
theorem ahu {Γ:Env} {f Ja:Nat} (h:Has Γ.P f 34 (vr f Ja) Zx) (z0:KL Γ Ja):wb Γ f:=by
 suffices H:∀ (kk:Nat),∀ (x:QY) (hx:x.siz < 2 ^ 35),x.siz < kk→EvC Γ f [x.v] (.sl 1 (jF x.pB)) from fun x hx=>H _ x hx (kf _)
 intro kk;induction kk with
 | zero=>intros;rename_i hk;exact absurd hk (kV _)
 | succ kk ih =>
 intro x hx hk
 refine Qn h zsi zcl fun C hC hm=>?_
 subst hC
 unfold vr
 obtain ⟨t,b,n,es⟩:=x
 simp only [QY.v_eq]
 have hss:(QY.mk t b n es).siz = 1 + b.length + wK es:=by rw [QY.siz]
 have hle:=acA es
 have hu:=ae6
 have htb:=jL b
 (have zx:=htb);refine zgo ?_;repeat' first|exact zt|apply zan|intro hc
 refine Qz (ι:=Nat) (fun k=>k≤es.length) (fun k=>Yo [(1,.ptr 0 0),(3,.hd 1 0 (b++pL (es.take k)).length),(4,V.int k)] [(0,.box true [V.int t,.sl 1 (jF b),V.bool n,.sl 4 (es.map QY.v)]),(1,.buf true 1 (jF (b++pL (es.take k))))] 2) (fun k=>es.length - k) 0 (zw _) (Qp [(1,5000)]) (JS [(1,5000)] (by simp only [go_sem,zwl,jF,zh,List.take_zero,pL,zY]<;>exact zcc) (by simp only [go_sem,zwl,jF,List.take_zero,pL,zY]<;>exact zcc) (by simp [Qp]) (by simp;omega) (by omega)) fun k hk K' hL=>?_
 have hab:=akv es k
 have hll:(b++pL (es.take k)).length = b.length + (pL (es.take k)).length:=zF
 rcases hd:es.drop k with _|⟨y,r⟩
 ·have hkl:=Qj hd
  have e1:decide ((k:Int) < (((es.map QY.v).length:Nat):Int)) = false:=by simp;omega
  rw [zb hkl] at *
  have hlg:=(z0 (b++pL es).length (by omega)).b
  have hl9:=ajC (b++pL es).length
  have hpb:(QY.mk t b n es).pB = u8i t :: (akL (b++pL es).length++(b++pL es)):=by rw [QY.pB]
  rw [hpb]
  generalize b++pL es = a at *
  have hta:=jL a
  have htl:=jL (akL a.length)
  have hT1:∀ v:V,List.take (1 + (akL a.length).length) (v :: jF (akL a.length)) = v :: jF (akL a.length):=fun v=>zb (by simp [Zk])
  (have zx:=za e1 (za hu (za hta (za htl hT1))));refine zgo ?_;repeat' first|exact zt|apply zan|intro hc
  all_goals (refine Qf _ rfl ?_;simp only [go_sem,ku];rw [zb (by simp;omega)];simp [jF])
 ·obtain ⟨hk',hget,hr⟩:=Qe hd
  have hw:=Qd (k:=k) (by omega)
  have e1:decide ((k:Int) < (((es.map QY.v).length:Nat):Int)) = true:=by simp;omega
  have hys:=afb hget
  have htk:=apR hget
  have hyl:=alX y
  obtain ⟨yt,yb,yn,ye⟩:=y
  have hi:=(ih (.mk yt yb yn ye) (by omega) (by omega)).b
  rw [QY.v_eq] at hi
  generalize (QY.mk yt yb yn ye).pB = p at *
  have hnx:b++pL (es.take (k + 1)) = (b++pL (es.take k))++p:=by rw [htk,zW]
  generalize hA:b++pL (es.take k) = a at *
  have hta:=jL a
  (have zx:=za e1 (za hw (za hget hta)));refine zgo ?_;repeat' first|exact zt|apply zan|intro hc
  all_goals exact hL _ (k + 1) (Qp [(1,12002)]) hk' (by omega) (JS [(1,12002)] (by simp only [go_sem,zwl,hnx,zF]<;>exact zcc) (by simp only [go_sem,zwl,hnx,jF,zG]<;>exact zcc) (by simp [Qp]) (by simp;omega) (by omega))
section
variable {C:Ctx} {nt:Nat} {s:St} {K:St→Prop} {E:Nat→St→Prop} {R:St→Prop}
theorem JD {ks:List Nat} {x:AC} {ι:Type} (good:ι→Prop) (inv:ι→St) (msr:ι→Nat) (i0:ι) (h0:good i0) (hw:Cl C.m s (inv i0))
  (h:∀ i,good i→∀ K':St→Prop,(∀ s' i',good i'→msr i' < msr i→Cl C.m s' (inv i')→K' s')→AWp C nt x (inv i) K' E R):AWp C nt (afn ks x) s K E R :=
 am9 good inv msr ⟨i0,h0,hw⟩ fun i hi=>h i hi _ fun _ i' h1 h2 h3=>⟨i',h1,h2,h3⟩
end
def asi (l:List QY) (k:Nat):St:=stL [(0,.sl 4 (l.map QY.v)),(3,.hd 0 0 k),(4,V.int k)] [.buf true 4 ((l.take k).map QY.v)]
theorem aaL {o:Nat→Option Ob} {br:List Nat} {B:Option (List Nat)} {ys zs:List V} (h:VY o br B ys zs):∀ l:List QY,VY o br B (l.map QY.v++ys) (l.map QY.v++zs)
 | []=>h
 | x :: r=>⟨by obtain ⟨t,b,n,es⟩:=x;rw [QY.v_eq];exact Qc _ _ _ _ (by simp [V.cells,Qa,V.closed]),aaL h r⟩
theorem amQ {o:Nat→Option Ob} {br:List Nat} {n:Nat} {t:Int} {b:List UInt8} {q:Bool} {es:List V} (h:o n = some (.buf true 1 (jF b))) (hn:n ∉ br) :
  QE o br none [V.int t,.hd n 0 (jF b).length,V.bool q,.sl 4 es] [V.int t,.sl 1 (jF b),V.bool q,.sl 4 es]:=by
 refine ⟨by simp [conv,V.int],?_,by simp [conv,V.bool],by simp [conv],trivial⟩
 simp only [conv]
 exact ⟨trivial,hn,.inl ⟨true,_,h,by rw [ku,zb (zi _)]⟩⟩
theorem xp:∀ l:List QY,UL (l.map QY.v)
 | []=>trivial
 | x :: r=>⟨by obtain ⟨t,b,n,es⟩:=x;rw [QY.v_eq];simp [V.cells,Qa,V.closed],xp r⟩
def qV (adQ:Nat):AC:=Ue [0] (.reg [xo 2 (.mknil 4)]) (Ue [0,3] (.reg [xo 3 (.mknil 4)]) (Ue [3] (Ue [0,3,4] (.reg [mc 4 (V.int 0)]) (.block 0 (afn [0,3,4] (Ue [0,3,4] (Ue [0,3,4,9] (.reg [mv 6 4,mv 7 0,ln 8 7,bn 9 .lss 6 8]) (.cond (.t 9) .skip (.exit 0))) (Ue [0,3,4] (.block 1 (Ue [0,3,4,5] (.reg [mv 12 0,mv 13 4,ia 14 4 12 13,xo 15 (.load true 4 (.t 14)),xo 5 (.alloc [.val vi0,.nil 1,.val (.bool false),.nil 4]),xs 4 5 15]) (Ue [0,3,4,5] (.reg [xo 16 (.bslice 0 1 false [(.int .u8 0)] []),fa 17 1 5,ld 18 1 17,xo 19 (.append 1 1 [(.int .u8 0)] (.t 16) (.t 18)),fa 20 1 5,xs 1 20 19]) (Ue [0,3,4,5] (.reg [fa 21 3 5,ld 22 1 21,cl 23 adQ [22],fa 24 3 5,xs 1 24 23]) (.reg [mv 25 3,xo 26 (.load true 4 (.t 5)),xo 27 (.obslice 1 4 true [vi0,vn0,(.bool false),vn0] [(0,(.t 26))]),xo 28 (.append 4 64 [vi0,vn0,(.bool false),vn0] (.t 25) (.t 27)),mv 3 28]))))) (.reg [mv 10 4,bc 11 .add 10 (V.int 1),mv 4 11])))))) (Ue [2] (.reg [mv 29 3,mv 2 29]) .ret))) def Zy:List Uc:=[.tmp 2]
def KN (Γ:Env) (f:Nat):Prop:=∀ (l:List QY) (hx:wK l < 2 ^ 33),EvC Γ f [.sl 4 (l.map QY.v)] (.sl 4 (l.map QY.v))
attribute [local go_sem] QY.v_eq j9 in
theorem ac6 {Γ:Env} {f:Nat} (h:Has Γ.P f 30 (qV f) Zy) :KN Γ f:=by
 suffices H:∀ (kk:Nat),∀ (l:List QY) (hx:wK l < 2 ^ 33),wK l < kk→EvC Γ f [.sl 4 (l.map QY.v)] (.sl 4 (l.map QY.v)) from fun l hx=>H _ l hx (kf _)
 intro kk;induction kk with
 | zero=>intros;rename_i hk;exact absurd hk (kV _)
 | succ kk ih =>
 intro l hx hk
 refine Qn h zsi zcl fun C hC hm=>?_
 subst hC
 unfold qV
 have hle:=acA l
 refine zgo ?_;repeat' first|exact zt|apply zan|intro hc
 refine JD (ι:=Nat) (fun k=>k≤l.length) (fun k=>asi l k) (fun k=>l.length - k) 0 (zw _) ?_ fun k hk K' hL=>?_
 ·refine ai4 [1000] none (fun p hp=>?_) ?_ (by simp) (by rw [hm];rfl)
  ·simp only [zp,zy,or_false] at hp
   rcases hp with rfl|rfl|rfl
   ·exact Ql _ _ _ (.sl 4 _) trivial
   ·show conv _ _ _ (.hd 1000 0 0) (.hd 0 0 0)
    simp [conv]
   ·exact Ql _ _ _ (V.int 0) trivial
  ·exact ⟨⟨_,rfl,fun h=>h,rfl,rfl⟩,trivial⟩
 have hlm:(l.map QY.v).length = l.length:=zh _
 rcases hd:l.drop k with _|⟨y,r⟩
 ·have hkl:=Qj hd
  have e1:decide ((k:Int) < ((l.length:Nat):Int)) = false:=by simp;omega
  obtain rfl:k = l.length:=by omega
  simp only [asi,stL,zP]
  (have zx:=za e1 hlm);refine zgo ?_;repeat' first|exact zt|apply zan|intro hc
  all_goals
   refine Qf _ rfl ?_
   show conv _ _ _ (.hd 0 0 l.length) (.sl 4 _)
   simp only [conv]
   exact ⟨trivial,by simp,.inl ⟨true,_,rfl,by rw [ku,zb (by simp)]⟩⟩
 ·obtain ⟨hk',hget,hr⟩:=Qe hd
  have hw:=Qd (k:=k) (by omega)
  have e1:decide ((k:Int) < ((l.length:Nat):Int)) = true:=by simp;omega
  have hys:=afb hget
  obtain ⟨yt,yb,yn,ye⟩:=y
  have hss:(QY.mk yt yb yn ye).siz = 1 + yb.length + wK ye:=by rw [QY.siz]
  have hi:=(ih ye (by omega) (by omega)).b
  have htb:=jL yb
  simp only [asi,stL]
  (have zx:=za e1 (za hlm (za hw (za hget htb))));refine zgo ?_;repeat' first|exact zt|apply zan|intro hc
  all_goals
   refine hL _ (k + 1) hk' (by omega) (ai4 [24001] none (fun p hp=>?_) ?_ (by simp) (by rw [hm];rfl))
   ·simp only [zp,zy,or_false] at hp
    rcases hp with rfl|rfl|rfl
    ·exact Ql _ _ _ (.sl 4 _) trivial
    ·show conv _ _ _ (.hd 24001 0 (k + 1)) (.hd 0 0 (k + 1))
     simp [conv]
    ·exact Ql _ _ _ (V.int (k + 1:Nat)) trivial
   ·refine ⟨⟨_,rfl,fun h=>h,rfl,?_,xp _⟩,trivial⟩
    have hA:List.take k ((l.take k).map QY.v) = (l.take k).map QY.v:=zb (by rw [zh,zM];omega)
    have hB:l.take (k + 1) = l.take k++[.mk yt yb yn ye]:=by rw [zB,hget];rfl
    rw [hB,zG]
    show VY _ _ _ (List.take k ((l.take k).map QY.v)++[V.agg [V.int yt,.hd 13001 0 (jF yb).length,V.bool yn,.sl 4 (ye.map QY.v)]]) _
    rw [hA]
    refine aaL ?_ _
    show VY _ _ _ [V.agg [V.int yt,.hd 13001 0 (jF yb).length,V.bool yn,.sl 4 (ye.map QY.v)]] [QY.v (.mk yt yb yn ye)]
    rw [QY.v_eq]
    exact ⟨amQ rfl (by decide),trivial⟩
def aib (l:List QY):QY:=.mk 48 [] true l
def vB (s:List UInt8):QY:=.mk 12 s false []
def anz (b:Bool):QY:=.mk 1 [if b then 255 else 0] false []
def qy:=qd Proofs.Tryz.f269 []
def Kr (Γ:Env) (f:Nat):Prop:=∀ (l:List QY) (hx:wK l < 2 ^ 33),EvC Γ f [.sl 4 (l.map QY.v)] ((aib l).v)
theorem afO {Γ:Env} {f:Nat} (h:Has Γ.P f 6 qy.1.1.ac qy.1.2) (z0:KN Γ 288):Kr Γ f:=by
 intro l hx
 refine Qn h zsi (QY.v_closed _) fun C hC hm=>?_
 subst hC
 simp only [qy,qd,DC.ac]
 simp only [aib,QY.v_eq]
 exact zg
def qw:=qd Proofs.Tryz.f268 []
def yM (Γ:Env) (f:Nat):Prop:=∀ (s:List UInt8) (hs:s.length < 2 ^ 33),EvC Γ f [V.str s] ((vB s).v)
theorem afN {Γ:Env} {f:Nat} (h:Has Γ.P f 6 qw.1.1.ac qw.1.2) :yM Γ f:=by
 intro s hs
 refine Qn h zsi (QY.v_closed _) fun C hC hm=>?_
 subst hC
 simp only [qw,qd,DC.ac]
 simp only [vB,QY.v_eq]
 have htk:=jL s
 refine zgo ?_;repeat' first|exact zt|apply zan|intro hc
 all_goals first|exact zr|(refine Qf _ rfl ?_;simp only [go_sem,htk];done)
def qz:=qd Proofs.Tryz.f272 []
def yN (Γ:Env) (f:Nat):Prop:=∀ (b:Bool),EvC Γ f [V.bool b] ((anz b).v)
theorem afP {Γ:Env} {f:Nat} (h:Has Γ.P f 8 qz.1.1.ac qz.1.2) :yN Γ f:=by
 intro b
 refine Qn h zsi (QY.v_closed _) fun C hC hm=>?_
 subst hC
 simp only [qz,qd,DC.ac]
 simp only [anz,QY.v_eq]
 cases b
 all_goals refine zgo ?_;repeat' first|exact zt|apply zan|intro hc
 all_goals first|exact zr|(refine Qf _ rfl ?_;simp only [go_sem];rfl)
def apk (x:QY):V:=if x.fB = false then .tup [.sl 1 [],V.int 1] else if x.dep > 16 then .tup [.sl 1 [],V.int 3] else if x.pB.length > 4096 then .tup [.sl 1 [],V.int 3] else .tup [.sl 1 (jF x.pB),V.int 0]
theorem adj (x:QY):(apk x).closed:=by
 unfold apk
 repeat' split
 all_goals simp only [V.closed,Qa,and_self]
def Uo:=qd Proofs.Tryz.f240 []
def KO (Γ:Env) (f:Nat):Prop:=∀ (x:QY) (hx:x.siz < 2 ^ 35),EvC Γ f [x.v] (apk x)
theorem ac7 {Γ:Env} {f:Nat} (h:Has Γ.P f 17 Uo.1.1.ac Uo.1.2) (z0:KM Γ 265) (z1:jt Γ 266) (z2:wb Γ 267):KO Γ f:=by
 intro x hx
 refine Qn h zsi (adj _) fun C hC hm=>?_
 subst hC
 simp only [Uo,qd,DC.ac]
 have hf:=(z0 x (by omega)).b
 have hd:=(z1 x (by omega)).b
 have hp:=(z2 x hx).b
 have he:apk x = if x.fB = false then .tup [.sl 1 [],V.int 1] else if x.dep > 16 then .tup [.sl 1 [],V.int 3] else if x.pB.length > 4096 then .tup [.sl 1 [],V.int 3] else .tup [.sl 1 (jF x.pB),V.int 0]:=rfl
 rw [he]
 generalize x.pB = p at *
 generalize x.dep = d at *
 generalize x.fB = q at *
 obtain ⟨t,b,n,es⟩:=x
 rw [QY.v_eq] at *
 rcases q with _|_
 ·rw [if_pos rfl]
  exact zg
 ·rw [if_neg (by decide)]
  by_cases h2:d > 16
  ·rw [if_pos h2]
   have e2:decide ((d:Int) > 16) = true:=by simp;omega
   (have zx:=e2);exact zg
  ·rw [if_neg h2]
   have e2:decide ((d:Int) > 16) = false:=by simp;omega
   have hpl:((jF p).length:Int) = (p.length:Int):=by rw [af3]
   by_cases h3:p.length > 4096
   ·rw [if_pos h3]
    have e3:decide ((p.length:Int) > 4096) = true:=by simp;omega
    (have zx:=za e2 (za hpl e3));exact zg
   ·rw [if_neg h3]
    have e3:decide ((p.length:Int) > 4096) = false:=by simp;omega
    (have zx:=za e2 (za hpl e3));exact zg
def ail (h:Int) (c:UInt8):Int:=IntKind.u32.wrap (IntKind.u32.wrap ((BitVec.ofInt IntKind.u32.bits h ^^^ BitVec.ofInt IntKind.u32.bits (IntKind.u32.wrap (c.toNat:Int))).toNat:Nat) * 16777619)
def anD:Int→List UInt8→Int
 | h,[]=>h
 | h,c :: r=>anD (ail h c) r
def anE (b:List UInt8):Int:=IntKind.i64.wrap (anD 2166136261 b)
def yg:=qd Proofs.Tryz.f207 []
def x7 (Γ:Env) (f:Nat):Prop:=∀ (b:List UInt8) (hb:b.length < 2 ^ 60),EvN Γ f [.sl 1 (jF b)] (V.int (anE b))
theorem ahq {Γ:Env} {f:Nat} (h:Has Γ.P f 21 yg.1.1.ac yg.1.2) :x7 Γ f:=by
 intro b hb
 refine Qb h zsi zcl zcl fun C hC hm=>?_
 subst hC
 simp only [yg,qd,DC.ac]
 have hln:(jF b).length = b.length:=af3 b
 have hst:∀ h c,ail h c = IntKind.u32.wrap (IntKind.u32.wrap ((BitVec.ofInt IntKind.u32.bits h ^^^ BitVec.ofInt IntKind.u32.bits (IntKind.u32.wrap (c.toNat:Int))).toNat:Nat) * 16777619):=fun _ _=>rfl
 (have zx:=hln);refine zgo ?_;repeat' first|exact zt|apply zan|intro hc
 refine Qt (ι:=Nat×Int) (fun q=>q.1≤b.length∧anD q.2 (b.drop q.1) = anD 2166136261 b) (fun q=>[(3,.sc (.int .u32 q.2)),(4,V.int q.1)]) (fun q=>b.length - q.1) (0,2166136261) (by omega) ⟨zw _,rfl⟩ zol zlt zet fun q hq K' hL=>?_
 obtain ⟨k,h⟩:=q
 simp only at hq hL ⊢
 obtain ⟨hk,hinv⟩:=hq
 simp only [ovT,Jn,Nat.reduceEqDiff,reduceIte]
 rcases hd:b.drop k with _|⟨y,r⟩
 ·have hkl:=Qj hd
  have e1:decide ((k:Int) < ((b.length:Nat):Int)) = false:=by simp;omega
  rw [hd] at hinv
  have hs:anE b = IntKind.i64.wrap h:=by rw [anE,← hinv];rfl
  rw [hs]
  (have zx:=za hln e1);exact zg
 ·obtain ⟨hk',hget,hr⟩:=Qe hd
  have hw:=Qd (k:=k) (by omega)
  have e1:decide ((k:Int) < ((b.length:Nat):Int)) = true:=by simp;omega
  have hg2:(jF b)[k]? = some (.sc (.int .u8 y.toNat)):=by rw [zq,hget];rfl
  rw [hd] at hinv
  repeat' (first|(refine zsk ?_;intro K' hK)|refine zsp ?_|(refine zsc ?_ ?_<;>intro hc<;>first|exact znh|try simp only [znz] at hc)|simp (maxSteps:=1000000) only [go_sem,hln,e1,hw,Int.toNat_natCast,hg2,← hst]|(refine hK _ ?_;clear hK K')|apply zan|exact zsq|fail)
  all_goals exact hL _ (k + 1,ail h y) zet ⟨hk',by rw [hr,← hinv];rfl⟩ (by simp only;omega) zoe
theorem aob (n:Int):(arW n).length≤10:=by
 have:∀ (k:Nat) (x:Int) (b:List UInt8),(ag9 k x b).length≤k + b.length:=by
  intro k
  induction k with
  | zero=>intro x b;rw [ag9];omega
  | succ k ih =>
    intro x b
    rw [ag9]
    split
    ·have:=ih (x.fdiv 256) (u8i x :: b);rw [List.length_cons] at this;omega
    ·omega
 have h:=this 9 (n.fdiv 256) [u8i n]
 rw [List.length_singleton] at h
 exact h
theorem U0 (n:Int):(xm n).siz≤11:=by have:=aob n;rw [xm,QY.siz,wK];omega
def vH (a b:Int):QY:=aib [xm a,xm b]
theorem agA (a b:Int):(vH a b).siz≤30:=by
 have h1:=U0 a
 have h2:=U0 b
 rw [vH,aib,QY.siz,wK,wK,wK,List.length_nil];omega
def yf:=qd Proofs.Tryz.f271 [⟨fun y=>!decide (y = 1000),[7],zoc 0 9⟩]
def x6 (Γ:Env) (f:Nat):Prop:=∀ (a b:Int) (h0:-9223372036854775808≤a) (h1:a < 9223372036854775808) (h2:-9223372036854775808≤b) (h3:b < 9223372036854775808),EvC Γ f [.agg [V.int a,V.int b]] ((vH a b).v)
theorem ahp {Γ:Env} {f:Nat} (h:Has Γ.P f 11 yf.1.1.ac yf.1.2) (z0:qK Γ 270) (z1:Kr Γ 269):x6 Γ f:=by
 intro a b h0 h1 h2 h3
 refine Qn h zsi (QY.v_closed _) fun C hC hm=>?_
 subst hC
 simp only [yf,qd,DC.ac]
 have ia:=(z0 a h0 h1).b
 have ib:=(z0 b h2 h3).b
 have hsa:=U0 a
 have hsb:=U0 b
 have il:=z1 [xm a,xm b] (by rw [wK,wK,wK];omega)
 simp only [zm,zl,aib,QY.v_eq] at il
 obtain ⟨cs,hcs,hl4,hcl,hcc⟩:=QY.v_agg (xm a)
 simp only [xm,QY.v_eq] at ia ib il
 simp only [vH,aib,QY.v_eq,zm,zl,xm]
 repeat' (first|(refine zsk ?_;intro K' hK)|(refine zrg ?_;intro K' hK)|refine zsp ?_|(refine zsc ?_ ?_<;>intro hc<;>first|exact znh|try simp only [znz] at hc)|simp (maxSteps:=1000000) only [go_sem,V.shutOk0,Ud,V.shut0,K8,ntL,not_false_eq_true]|(refine hK _ ?_;clear hK K')|apply zan|(apply ane;(focus first|exact il))|(apply ang;(focus first|exact il);(focus first|exact rfl|decide))|((first|apply QC|apply Qr);(focus first|exact ia|exact ib|exact (z0 _ zsd zsd).b|exact (z1 _ zsd).b))|exact zsq|fail)
 all_goals exact zr
abbrev I60 (n:Int):Prop:=-1152921504606846976≤n∧n≤1152921504606846976
structure Qk.T (c:Qk):Prop where
 i1:I60 c.serial
 i2:I60 c.kalg
 i3:I60 c.kbits
 i4:I60 c.kid
 i5:I60 c.halg
 i6:I60 c.hbits
 i7:I60 c.from_
 i8:I60 c.to_
 i9:I60 c.path
 l1:c.issuer.length≤1000
 l2:c.subject.length≤1000
 l3:c.names.length≤64
 l4:∀ x∈c.names,x.length≤1000
def aav (c:Qk):QY:=aib [xm c.serial,vB c.issuer,vB c.subject,vH c.kalg c.kbits,xm c.kid,vH c.halg c.hbits,xm c.from_,xm c.to_,anz c.auth,xm c.path,aib (c.names.map vB)]
theorem agz (s:List UInt8):(vB s).siz = 1 + s.length:=by rw [vB,QY.siz,wK,Nat.add_zero]
theorem anx (b:Bool):(anz b).siz = 2:=by rw [anz,QY.siz,wK];simp
theorem acS:∀ {l:List (List UInt8)},(∀ x∈l,x.length≤1000)→wK (l.map vB)≤1001 * l.length
 | [],_=>zi _
 | x :: r,h=>by
   have h1:=acS (l:=r) fun y hy=>h y (by simp [hy])
   have h2:=h x (by simp)
   rw [zm,wK,agz,List.length_cons];omega
theorem ahJ {c:Qk} (t:c.T):(aav c).siz≤100000:=by
 have h1:=acS t.l4
 have h2:=t.l1
 have h3:=t.l2
 have h4:=t.l3
 have i1:=U0 c.serial
 have i2:=U0 c.kid
 have i3:=U0 c.from_
 have i4:=U0 c.to_
 have i5:=U0 c.path
 have u1:=agA c.kalg c.kbits
 have u2:=agA c.halg c.hbits
 simp only [aav,aib,QY.siz,wK,agz,anx,List.length_nil]
 omega
def asl (c:Qk) (k:Nat):St:=stL [(1,.ptr 0 0),(2,.ptr 1 0),(3,.hd 4 0 k),(4,V.int k)] [.box true c.cells,.box true [V.int 0,.hd 2 0 0,V.bool false,.hd 3 0 0],.buf true 1 [],.buf true 4 [],.buf true 4 (((c.names.take k).map vB).map QY.v)]
def qm:=qd Proofs.Tryz.f241 [⟨fun y=>!decide (y = 1) && !decide (y = 4),[31,33],zoc 0 35⟩]
def yI (Γ:Env) (f:Nat):Prop:=∀ (c:Qk) (hc:c.T),EvC Γ f [c.v] ((aav c).v)
attribute [local go_sem] List.getElem?_cons_succ List.getElem?_cons_zero Qk.cells in
theorem afE {Γ:Env} {f:Nat} (h:Has Γ.P f 55 qm.1.1.ac qm.1.2) (z0:yM Γ 268) (z1:qK Γ 270) (z2:x6 Γ 271) (z3:yN Γ 272) (z4:Kr Γ 269):yI Γ f:=by
 intro c hc
 refine Qn h zsi (QY.v_closed _) fun C hC hm=>?_
 subst hC
 simp only [qm,qd,DC.ac]
 have hl3:=hc.l3
 have hln:(c.names.map V.str).length = c.names.length:=zh _
 simp only [Qk.v]
 refine zgo ?_;repeat' first|exact zt|apply zan|intro hc
 have hcl:Qa c.cells:=by simp only [Qk.cells,V.closed,Qa,and_self]
 refine JD (ι:=Nat) (fun k=>k≤c.names.length) (fun k=>asl c k) (fun k=>c.names.length - k) 0 (zw _) ?_ fun k hk K' hL=>?_
 ·refine ai4 [0,1000,1002,1004,2000] none (fun p hp=>?_) ?_ (by simp) (by rw [hm];rfl)
  ·simp only [zp,zy,or_false] at hp
   rcases hp with rfl|rfl|rfl|rfl
   ·show conv _ _ _ (.ptr 0 0) (.ptr 0 0)
    simp [conv]
   ·show conv _ _ _ (.ptr 1000 0) (.ptr 1 0)
    simp [conv]
   ·show conv _ _ _ (.hd 2000 0 0) (.hd 4 0 0)
    simp [conv]
   ·exact Ql _ _ _ (V.int 0) trivial
  ·exact ⟨⟨_,rfl,fun h=>h,Qc _ _ _ _ hcl⟩,⟨_,rfl,fun h=>h,by show QE _ _ _ [_,_,_,_] _;simp [QE,conv,V.int,V.bool]⟩,⟨_,rfl,fun h=>h,rfl,rfl⟩,⟨_,rfl,fun h=>h,rfl,rfl⟩,⟨_,rfl,fun h=>h,rfl,rfl⟩,trivial⟩
 rcases hd:c.names.drop k with _|⟨y,r⟩
 ·have hkl:=Qj hd
  have e1:decide ((k:Int) < ((c.names.length:Nat):Int)) = false:=by simp;omega
  obtain rfl:k = c.names.length:=by omega
  simp only [asl,stL,zP]
  have ns:=acS hc.l4
  have i1:=(z1 c.serial (by have:=hc.i1;omega) (by have:=hc.i1;omega)).b
  have i2:=(z1 c.kid (by have:=hc.i4;omega) (by have:=hc.i4;omega)).b
  have i3:=(z1 c.from_ (by have:=hc.i7;omega) (by have:=hc.i7;omega)).b
  have i4:=(z1 c.to_ (by have:=hc.i8;omega) (by have:=hc.i8;omega)).b
  have i5:=(z1 c.path (by have:=hc.i9;omega) (by have:=hc.i9;omega)).b
  have t1:=(z0 c.issuer (by have:=hc.l1;omega)).b
  have t2:=(z0 c.subject (by have:=hc.l2;omega)).b
  have u1:=(z2 c.kalg c.kbits (by have:=hc.i2;omega) (by have:=hc.i2;omega) (by have:=hc.i3;omega) (by have:=hc.i3;omega)).b
  have u2:=(z2 c.halg c.hbits (by have:=hc.i5;omega) (by have:=hc.i5;omega) (by have:=hc.i6;omega) (by have:=hc.i6;omega)).b
  have b1:=(z3 c.auth).b
  have htn:List.take c.names.length ((c.names.map vB).map QY.v) = (c.names.map vB).map QY.v:=zb (by simp)
  have n1:=z4 (c.names.map vB) (by omega)
  have bs:=ahJ hc
  have l1:=z4 [xm c.serial,vB c.issuer,vB c.subject,vH c.kalg c.kbits,xm c.kid,vH c.halg c.hbits,xm c.from_,xm c.to_,anz c.auth,xm c.path,aib (c.names.map vB)] (by rw [aav,aib,QY.siz] at bs;omega)
  have hb:(aav c).v = (aib [xm c.serial,vB c.issuer,vB c.subject,vH c.kalg c.kbits,xm c.kid,vH c.halg c.hbits,xm c.from_,xm c.to_,anz c.auth,xm c.path,aib (c.names.map vB)]).v:=rfl
  rw [hb]
  simp only [zm,zl] at l1
  generalize (aib [xm c.serial,vB c.issuer,vB c.subject,vH c.kalg c.kbits,xm c.kid,vH c.halg c.hbits,xm c.from_,xm c.to_,anz c.auth,xm c.path,aib (c.names.map vB)]) = res at *
  generalize xm c.serial = a1 at *
  generalize xm c.kid = a2 at *
  generalize xm c.from_ = a3 at *
  generalize xm c.to_ = a4 at *
  generalize xm c.path = a5 at *
  generalize vB c.issuer = a6 at *
  generalize vB c.subject = a7 at *
  generalize vH c.kalg c.kbits = a8 at *
  generalize vH c.halg c.hbits = a9 at *
  generalize anz c.auth = a10 at *
  generalize aib (c.names.map vB) = a11 at *
  obtain ⟨_,_,_,_⟩:=res;obtain ⟨_,_,_,_⟩:=a1;obtain ⟨_,_,_,_⟩:=a2;obtain ⟨_,_,_,_⟩:=a3;obtain ⟨_,_,_,_⟩:=a4;obtain ⟨_,_,_,_⟩:=a5
  obtain ⟨_,_,_,_⟩:=a6;obtain ⟨_,_,_,_⟩:=a7;obtain ⟨_,_,_,_⟩:=a8;obtain ⟨_,_,_,_⟩:=a9;obtain ⟨_,_,_,_⟩:=a10;obtain ⟨_,_,_,_⟩:=a11
  simp only [QY.v_eq] at *
  repeat' (first|(refine zsk ?_;intro K' hK)|(refine zrg ?_;intro K' hK)|refine zsp ?_|(refine zsc ?_ ?_<;>intro hc<;>first|exact znh|try simp only [znz] at hc)|simp (maxSteps:=1000000) only [go_sem,Qk.cells,hln,e1,htn,V.shutOk0,Ud,V.shut0,K8,ntL,not_false_eq_true,List.getElem?_cons_zero,List.getElem?_cons_succ]|(refine hK _ ?_;clear hK K')|apply zan|(apply ane;(focus first|exact n1|exact l1))|(apply ang;(focus first|exact n1|exact l1);(focus first|exact rfl|decide))|((first|apply QC|apply Qr);(focus first|exact i1|exact i2|exact i3|exact i4|exact i5|exact t1|exact t2|exact u1|exact u2|exact b1|exact (z0 _ zsd).b|exact (z1 _ zsd zsd).b|exact (z2 _ _ zsd zsd zsd zsd).b|exact (z3 _).b|exact (z4 _ zsd).b))|exact zsq|fail)
  all_goals exact zr
 ·obtain ⟨hk',hget,hr⟩:=Qe hd
  have hw:=Qd (k:=k) (by omega)
  have e1:decide ((k:Int) < ((c.names.length:Nat):Int)) = true:=by simp;omega
  have hy:=hc.l4 y (zj hget)
  have ty:=(z0 y (by omega)).b
  simp only [asl,stL]
  simp only [vB,QY.v_eq] at ty
  (have zx:=za hln (za e1 (za hw hget)));refine zgo ?_;repeat' first|exact zt|apply zan|intro hc
  all_goals
   refine hL _ (k + 1) hk' (by omega) (ai4 [0,1,2,3,13005] none (fun p hp=>?_) ?_ (by simp) (by rw [hm];rfl))
   ·simp only [zp,zy,or_false] at hp
    rcases hp with rfl|rfl|rfl|rfl
    ·show conv _ _ _ (.ptr 0 0) (.ptr 0 0)
     simp [conv]
    ·show conv _ _ _ (.ptr 1 0) (.ptr 1 0)
     simp [conv]
    ·show conv _ _ _ (.hd 13005 0 (k + 1)) (.hd 4 0 (k + 1))
     simp [conv]
    ·exact Ql _ _ _ (V.int (k + 1:Nat)) trivial
   ·refine ⟨⟨_,rfl,fun h=>h,Qc _ _ _ _ hcl⟩,⟨_,rfl,fun h=>h,by show QE _ _ _ [_,_,_,_] _;simp [QE,conv,V.int,V.bool]⟩,⟨_,rfl,fun h=>h,rfl,rfl⟩,⟨_,rfl,fun h=>h,rfl,rfl⟩,⟨_,rfl,fun h=>h,rfl,?_,xp _⟩,trivial⟩
    have hA:List.take k (((c.names.take k).map vB).map QY.v) = ((c.names.take k).map vB).map QY.v:=zb (by rw [zh,zh,zM];omega)
    have hB:c.names.take (k + 1) = c.names.take k++[y]:=by rw [zB,hget];rfl
    rw [hB,zG,zG]
    show VY _ _ _ (List.take k (((c.names.take k).map vB).map QY.v)++[V.agg [V.int 12,.sl 1 (jF y),V.bool false,.sl 4 []]]) _
    rw [hA]
    refine aaL ?_ _
    show VY _ _ _ _ [QY.v (vB y)]
    rw [vB,QY.v_eq]
    exact ⟨Qc _ _ _ _ ⟨trivial,trivial,trivial,trivial,trivial⟩,trivial⟩
theorem anC (l:List (List UInt8)):List.take l.length (l.map V.str) = l.map V.str:=zb (by simp)
def ae3 (c:Qk):V:=if W5 c = false then .tup [.sl 1 [],V.int 9] else apk (aav c)
theorem af2 (c:Qk):(ae3 c).closed:=by
 unfold ae3
 split
 ·simp only [V.closed,Qa,and_self]
 ·exact adj _
def aqS (x:QY):List UInt8:=if x.fB = false then [] else if x.dep > 16 then [] else if x.pB.length > 4096 then [] else x.pB
theorem amP (x:QY):∃ n:Int,apk x = .tup [.sl 1 (jF (aqS x)),V.int n]:=by
 unfold apk aqS
 repeat' split
 all_goals exact ⟨_,rfl⟩
theorem aoo (x:QY):(aqS x).length≤4096:=by
 unfold aqS
 repeat' split
 all_goals first|exact zw _|omega
def qq:=qd Proofs.Tryz.f205 []
def Kp (Γ:Env) (f:Nat):Prop:=∀ (c:Qk) (hn:c.names.length < 2 ^ 30),EvC Γ f [c.v] (c.v)
attribute [local go_sem] Qk.cells in
theorem afI {Γ:Env} {f:Nat} (h:Has Γ.P f 9 qq.1.1.ac qq.1.2) :Kp Γ f:=by
 intro c hn
 refine Qn h zsi (by simp only [Qk.v,Qk.cells,V.closed,Qa,and_self]) fun C hC hm=>?_
 subst hC
 simp only [qq,qd,DC.ac]
 have htk:=anC c.names
 have hln:(c.names.map V.str).length = c.names.length:=zh _
 simp only [Qk.v]
 (have zx:=za htk hln);refine zgo ?_;repeat' first|exact zt|apply zan|intro hc
 all_goals first|exact zr|(refine Qf _ rfl ?_;simp only [go_sem,Qk.cells,htk];done)
def Kg:=qd Proofs.Tryz.f206 []
def jp (Γ:Env) (f:Nat):Prop:=∀ (c:Qk) (hc:c.T),EvC Γ f [c.v] (ae3 c)
attribute [local go_sem] Qk.cells in
theorem ad3 {Γ:Env} {f:Nat} (h:Has Γ.P f 12 Kg.1.1.ac Kg.1.2) (z0:Wq Γ 124) (z1:yI Γ 241) (z2:KO Γ 240):jp Γ f:=by
 intro c hc
 refine Qn h zsi (af2 _) fun C hC hm=>?_
 subst hC
 simp only [Kg,qd,DC.ac]
 have l1:=hc.l1
 have l2:=hc.l2
 have l3:=hc.l3
 have ck:=(z0 c (by omega) (by omega) (by omega) (fun x hx=>by have:=hc.l4 x hx;omega)).b
 have bd:=(z1 c hc).b
 have bs:=ahJ hc
 have en:=(z2 (aav c) (by omega)).b
 simp only [Qk.v,Qk.cells] at ck bd ⊢
 rw [ae3]
 cases hq:W5 c with
 | false =>
   rw [if_pos rfl]
   rw [hq,if_neg (by decide)] at ck
   exact zg
 | true =>
   rw [if_neg (by decide)]
   rw [hq,if_pos rfl] at ck
   obtain ⟨n,hn⟩:=amP (aav c)
   rw [hn] at en ⊢
   generalize aav c = x at *
   obtain ⟨_,_,_,_⟩:=x
   rw [QY.v_eq] at *
   exact zg
def bare (c:Qk):Qk:={ c with skey:=0,ssum:=0 }
def agu:Qk:=⟨0,[],[],0,0,0,0,0,0,0,false,0,[],0,0⟩
def alI (c:Qk) (key:Int):Bool:=W5 (bare c) && (decide (key≥0) && decide (key≤2147483648))
def adI (c:Qk) (key:Int):Qk:=if alI c key = true then { c with skey:=key,ssum:=anE (aqS (aav (bare c))) } else agu
def apH (c:Qk) (key:Int):Int:=if alI c key = true then 0 else 9
theorem arB {c:Qk} (h:c.T):(bare c).T:=⟨h.i1,h.i2,h.i3,h.i4,h.i5,h.i6,h.i7,h.i8,h.i9,h.l1,h.l2,h.l3,h.l4⟩
theorem VZ (c:Qk):c.v.closed:=by simp only [Qk.v,Qk.cells,V.closed,Qa,and_self]
def qn:=qd Proofs.Tryz.f171 []
def yJ (Γ:Env) (f:Nat):Prop:=∀ (c:Qk) (key:Int) (hc:c.T),EvC Γ f [c.v,V.int key] (.tup [(adI c key).v,V.int (apH c key)])
attribute [local go_sem] Qk.cells in
theorem afF {Γ:Env} {f:Nat} (h:Has Γ.P f 35 qn.1.1.ac qn.1.2) (z0:Kp Γ 205) (z1:Wq Γ 124) (z2:jp Γ 206) (z3:x7 Γ 207):yJ Γ f:=by
 intro c key hc
 refine Qn h zsi (⟨VZ _,trivial,trivial⟩) fun C hC hm=>?_
 subst hC
 simp only [qn,qd,DC.ac]
 have l1:=hc.l1
 have l2:=hc.l2
 have l3:=hc.l3
 have hb:=arB hc
 have cp:=(z0 c (by omega)).b
 have ck:=(z1 (bare c) (by show c.issuer.length < _;omega) (by show c.subject.length < _;omega) (by show c.names.length < _;omega) (fun x hx=>by have:=hc.l4 x hx;omega)).b
 have by9:=(z2 (bare c) hb).b
 have sm:=(z3 (aqS (aav (bare c))) (by have:=aoo (aav (bare c));omega)).b
 have hvb:(bare c).v = .agg [V.int c.serial,V.str c.issuer,V.str c.subject,V.int c.kalg,V.int c.kbits,V.int c.kid,V.int c.halg,V.int c.hbits,V.int c.from_,V.int c.to_,V.bool c.auth,V.int c.path,.sl 1 (c.names.map V.str),V.int 0,V.int 0]:=rfl
 rw [hvb] at ck by9
 simp only [Qk.v,Qk.cells] at cp ⊢
 cases hq:W5 (bare c) with
 | false =>
   have hs:alI c key = false:=by rw [alI,hq];rfl
   rw [hq,if_neg (by decide)] at ck
   simp only [adI,apH,hs,agu,zl]
   exact zg
 | true =>
   rw [hq,if_pos rfl] at ck
   have hby:ae3 (bare c) = apk (aav (bare c)):=by rw [ae3,hq,if_neg (by decide)]
   rw [hby] at by9
   obtain ⟨n,hn⟩:=amP (aav (bare c))
   rw [hn] at by9
   rcases h1:decide (key≥0) with _|_<;>rcases h2:decide (key≤2147483648) with _|_
   all_goals
    have g1:decide (key < 0) = !decide (key≥0):=by by_cases h:key < 0<;>simp [h]<;>omega
    have g2:decide (key > 2147483648) = !decide (key≤2147483648):=by by_cases h:key > 2147483648<;>simp [h]<;>omega
    have hs:alI c key = (W5 (bare c) && (decide (key≥0) && decide (key≤2147483648))):=rfl
    rw [hq,h1,h2] at hs
    rw [h1] at g1
    rw [h2] at g2
    simp only [zT,zI,kh,kW,kH] at hs g1 g2
    simp only [adI,apH,hs,agu,zl,if_true,if_false,zk]
    (have zx:=za g1 g2);exact zg
structure Qv where
 alias:List UInt8
 kalg:Int
 kbits:Int
 kid:Int
 secret:Bool
 chain:List Qk
def Qv.cells (x:Qv):List V:=[V.str x.alias,V.int x.kalg,V.int x.kbits,V.int x.kid,V.bool x.secret,.sl 15 (x.chain.map Qk.v)]
def Qv.v (x:Qv):V:=.agg x.cells
structure Qv.Sm (x:Qv):Prop where
 hl:x.alias.length < 2 ^ 60
 hc:x.chain.length < 2 ^ 30
 hs:∀ c∈x.chain,c.Sm
 hn:∀ c∈x.chain,c.names.length < 2 ^ 30
def Qv.ok (x:Qv):Bool:=QT x.alias && W0 x.kalg x.kbits x.kid x.chain
def Qv.lt (x y:Qv):Bool:=Op.bytesLess x.alias y.alias
def yU (l:List Qv):Bool:=okP Qv.ok Qv.lt l l.length && decide ((l.length:Int)≤64)
def Wy:=qd Proofs.Tryz.f92 [zhn 29]
def V8 (Γ:Env) (f:Nat):Prop:=∀ (l:List Qv) (hl:l.length < 2 ^ 60) (hs:∀ x∈l,x.Sm),EvN Γ f [.sl 6 (l.map Qv.v)] (V.int (if yU l = true then 0 else 16))
attribute [local go_sem] Qv.cells Qv.v in
theorem aa6 {Γ:Env} {f:Nat} (h:Has Γ.P f 45 Wy.1.1.ac Wy.1.2) (z0:Xb Γ 131) (z1:We Γ 51):V8 Γ f:=by
 intro l hl hs
 refine Qb h zsi zcl zcl fun C hC hm=>?_
 subst hC
 simp only [Wy,qd,DC.ac]
 have hlm:(l.map Qv.v).length = l.length:=zh _
 (have zx:=hlm);refine zgo ?_;repeat' first|exact zt|apply zan|intro hc
 refine Qt (ι:=Nat) (fun k=>k≤l.length∧okP Qv.ok Qv.lt l k = true) (fun k=>[(7,V.int k)]) (fun k=>l.length - k) 0 (by omega) ⟨zw _,rfl⟩ zol zlt zet fun k hk K' hL=>?_
 obtain ⟨hk,hinv⟩:=hk
 simp only [ovT,Jn,Nat.reduceEqDiff,reduceIte]
 rcases hd:l.drop k with _|⟨x,r⟩
 ·have hkl:=Qj hd
  have e1:decide ((k:Int) < ((l.length:Nat):Int)) = false:=by simp;omega
  have hkk:k = l.length:=by omega
  subst hkk
  by_cases h64:l.length > 64
  ·have e2:decide ((l.length:Int) > 64) = true:=by simp;omega
   have e3:decide ((l.length:Int)≤64) = false:=by simp;omega
   rw [if_neg (by rw [yU,hinv,e3];decide)]
   (have zx:=za e1 (za hlm e2));exact zg
  ·have e2:decide ((l.length:Int) > 64) = false:=by simp;omega
   have e3:decide ((l.length:Int)≤64) = true:=by simp;omega
   rw [if_pos (by rw [yU,hinv,e3];rfl)]
   (have zx:=za e1 (za hlm e2));exact zg
 ·obtain ⟨hk',hget,hr⟩:=Qe hd
  have hw:=Qd (k:=k) (by omega)
  have e1:decide ((k:Int) < ((l.length:Nat):Int)) = true:=by simp;omega
  have sm:=hs x (zj hget)
  have hnx:=(z0 x.alias sm.hl).b
  have hsh:=(z1 x.kalg x.kbits x.kid x.chain (Nat.lt_trans sm.hc (by decide)) sm.hs).b
  have hbad:okP Qv.ok Qv.lt l (k + 1) = false→¬ yU l = true:=fun h=>by rw [yU,acR h (by omega),zD];decide
  rcases hx:QT x.alias with _|_
  ·have hb:okP Qv.ok Qv.lt l (k + 1) = false:=by rw [wh,hget];simp [Qv.ok,hx]
   rw [if_neg (hbad hb)]
   rw [hx] at hnx
   (have zx:=za e1 (za hw (za hlm hget)));exact zg
  rw [hx] at hnx
  rcases k with _|k
  ·have hw0:IntKind.i64.wrap 1 = ((1:Nat):Int):=by decide
   have e2:decide (((0:Nat):Int) > 0) = false:=rfl
   have h1:okP Qv.ok Qv.lt l (0 + 1) = W0 x.kalg x.kbits x.kid x.chain:=by rw [acQ hget,Qv.ok,hx,zC]
   rcases hq:W0 x.kalg x.kbits x.kid x.chain with _|_
   ·rw [if_neg (hbad (by rw [h1,hq]))]
    rw [hq] at hsh
    (have zx:=za e1 (za e2 (za hw (za hw0 (za hlm hget)))));exact zg
   ·rw [hq] at hsh
    (have zx:=za e1 (za e2 (za hw (za hw0 (za hlm hget)))));refine zgo ?_;repeat' first|exact zt|apply zan|intro hc
    all_goals exact hL _ 1 zet ⟨by omega,by rw [h1,hq]⟩ (by omega) zoe
  ·have e2:decide (((k + 1:Nat):Int) > 0) = true:=zu (by omega)
   have hw2:IntKind.i64.wrap (((k + 1:Nat):Int) - 1) = (k:Int):=by rw [Jc (by omega) (by omega)];omega
   obtain ⟨y,hgy⟩:∃ y,l[k]? = some y:=⟨_,zf (by omega)⟩
   have hnext:=vS (p:=Qv.ok) (q:=Qv.lt) hget hgy
   rw [hinv,Qv.ok,hx,zC,zC,Qv.lt] at hnext
   rcases hb:Op.bytesLess y.alias x.alias with _|_
   ·rw [if_neg (hbad (by rw [hnext,hb,zI]))]
    (have zx:=za e1 (za e2 (za hw (za hw2 (za hlm (za hget (za hgy hb)))))));exact zg
   ·rw [hb,zT] at hnext
    rcases hq:W0 x.kalg x.kbits x.kid x.chain with _|_
    ·rw [if_neg (hbad (by rw [hnext,hq]))]
     rw [hq] at hsh
     (have zx:=za e1 (za e2 (za hw (za hw2 (za hlm (za hget (za hgy hb)))))));exact zg
    ·rw [hq] at hsh
     (have zx:=za e1 (za e2 (za hw (za hw2 (za hlm (za hget (za hgy hb)))))));refine zgo ?_;repeat' first|exact zt|apply zan|intro hc
     all_goals exact hL _ (k + 2) zet ⟨by omega,by rw [hnext,hq]⟩ (by omega) zoe
def Ke:=qd Proofs.Tryz.f25 [zhn 44]
def jo (Γ:Env) (f:Nat):Prop:=∀ (l:List Qv) (hl:l.length < 2 ^ 60) (hs:∀ x∈l,x.Sm),EvN Γ f [.sl 6 (l.map Qv.v)] (V.int (if yU l = true then 0 else 16))
attribute [local go_sem] Qv.cells Qv.v in
theorem ad1 {Γ:Env} {f:Nat} (h:Has Γ.P f 57 Ke.1.1.ac Ke.1.2) (z0:Ko Γ 73) (z1:jn Γ 60):jo Γ f:=by
 intro l hl hs
 refine Qb h zsi zcl zcl fun C hC hm=>?_
 subst hC
 simp only [Ke,qd,DC.ac]
 have hlm:(l.map Qv.v).length = l.length:=zh _
 by_cases h64:l.length > 64
 ·have e2:decide ((l.length:Int) > 64) = true:=by simp;omega
  have e3:decide ((l.length:Int)≤64) = false:=by simp;omega
  rw [if_neg (by rw [yU,e3,zI];decide)]
  (have zx:=za hlm e2);exact zg
 have e2:decide ((l.length:Int) > 64) = false:=by simp;omega
 have e3:decide ((l.length:Int)≤64) = true:=by simp;omega
 (have zx:=za hlm e2);refine zgo ?_;repeat' first|exact zt|apply zan|intro hc
 refine Qt (ι:=Nat) (fun k=>k≤l.length∧okP Qv.ok Qv.lt l k = true) (fun k=>[(3,V.int k)]) (fun k=>l.length - k) 0 (by omega) ⟨zw _,rfl⟩ zol zlt zet fun k hk K' hL=>?_
 obtain ⟨hk,hinv⟩:=hk
 simp only [ovT,Jn,Nat.reduceEqDiff,reduceIte]
 rcases hd:l.drop k with _|⟨x,r⟩
 ·have hkl:=Qj hd
  have e1:decide ((k:Int) < ((l.length:Nat):Int)) = false:=by simp;omega
  have hkk:k = l.length:=by omega
  subst hkk
  rw [if_pos (by rw [yU,hinv,e3];rfl)]
  (have zx:=za e1 hlm);exact zg
 ·obtain ⟨hk',hget,hr⟩:=Qe hd
  have hw:=Qd (k:=k) (by omega)
  have e1:decide ((k:Int) < ((l.length:Nat):Int)) = true:=by simp;omega
  have sm:=hs x (zj hget)
  have hnx:=(z0 x.alias sm.hl).b
  have hsh:=(z1 x.kalg x.kbits x.kid x.chain (Nat.lt_trans sm.hc (by decide)) sm.hs).b
  have hbad:okP Qv.ok Qv.lt l (k + 1) = false→¬ yU l = true:=fun h=>by rw [yU,acR h (by omega),zD];decide
  rcases hx:QT x.alias with _|_
  ·have hb:okP Qv.ok Qv.lt l (k + 1) = false:=by rw [wh,hget];simp [Qv.ok,hx]
   rw [if_neg (hbad hb)]
   rw [hx] at hnx
   (have zx:=za e1 (za hw (za hlm hget)));exact zg
  rw [hx] at hnx
  rcases k with _|k
  ·have hw0:IntKind.i64.wrap 1 = ((1:Nat):Int):=by decide
   have e2:decide (((0:Nat):Int) > 0) = false:=rfl
   have h1:okP Qv.ok Qv.lt l (0 + 1) = W0 x.kalg x.kbits x.kid x.chain:=by rw [acQ hget,Qv.ok,hx,zC]
   rcases hq:W0 x.kalg x.kbits x.kid x.chain with _|_
   ·rw [if_neg (hbad (by rw [h1,hq]))]
    rw [hq] at hsh
    (have zx:=za e1 (za e2 (za hw (za hw0 (za hlm hget)))));exact zg
   ·rw [hq] at hsh
    (have zx:=za e1 (za e2 (za hw (za hw0 (za hlm hget)))));refine zgo ?_;repeat' first|exact zt|apply zan|intro hc
    all_goals exact hL _ 1 zet ⟨by omega,by rw [h1,hq]⟩ (by omega) zoe
  ·have e2:decide (((k + 1:Nat):Int) > 0) = true:=zu (by omega)
   have hw2:IntKind.i64.wrap (((k + 1:Nat):Int) - 1) = (k:Int):=by rw [Jc (by omega) (by omega)];omega
   obtain ⟨y,hgy⟩:∃ y,l[k]? = some y:=⟨_,zf (by omega)⟩
   have hnext:=vS (p:=Qv.ok) (q:=Qv.lt) hget hgy
   rw [hinv,Qv.ok,hx,zC,zC,Qv.lt] at hnext
   rcases hb:Op.bytesLess y.alias x.alias with _|_
   ·rw [if_neg (hbad (by rw [hnext,hb,zI]))]
    (have zx:=za e1 (za e2 (za hw (za hw2 (za hlm (za hget (za hgy hb)))))));exact zg
   ·rw [hb,zT] at hnext
    rcases hq:W0 x.kalg x.kbits x.kid x.chain with _|_
    ·rw [if_neg (hbad (by rw [hnext,hq]))]
     rw [hq] at hsh
     (have zx:=za e1 (za e2 (za hw (za hw2 (za hlm (za hget (za hgy hb)))))));exact zg
    ·rw [hq] at hsh
     (have zx:=za e1 (za e2 (za hw (za hw2 (za hlm (za hget (za hgy hb)))))));refine zgo ?_;repeat' first|exact zt|apply zan|intro hc
     all_goals exact hL _ (k + 2) zet ⟨by omega,by rw [hnext,hq]⟩ (by omega) zoe
def aqV (c:UInt8):Bool:=(decide ((c.toNat:Int) < 97) || decide ((c.toNat:Int) > 122)) && ((decide ((c.toNat:Int) < 65) || decide ((c.toNat:Int) > 90)) && ((decide ((c.toNat:Int) < 48) || decide ((c.toNat:Int) > 57)) && (((c.toNat:Int) != 45) && (((c.toNat:Int) != 95) && ((c.toNat:Int) != 46)))))
theorem aoG (c:UInt8):aln c [45,95,46] = !aqV c:=by
 have h:∀ n,n < 256→aln (UInt8.ofNat n) [45,95,46] = !aqV (UInt8.ofNat n):=by decide +kernel
 have:=h c.toNat (UInt8.toNat_lt c)
 rwa [UInt8.ofNat_toNat] at this
def qk:=qd Proofs.Tryz.f57 []
def yG (Γ:Env) (f:Nat):Prop:=∀ (s:List UInt8) (hs:s.length < 2 ^ 30),EvN Γ f [V.str s] (V.bool (xn s))
theorem afC {Γ:Env} {f:Nat} (h:Has Γ.P f 56 qk.1.1.ac qk.1.2) :yG Γ f:=by
 intro s hs
 refine Qb h zsi zcl zcl fun C hC hm=>?_
 subst hC
 simp only [qk,qd,DC.ac]
 by_cases h1:s.length < 1
 ·have e1:decide ((s.length:Int) < 1) = true:=zu (by omega)
  have hw:xn s = false:=by rw [xn,zv (by omega:¬ (s.length:Int)≥1)];simp
  rw [hw]
  (have zx:=e1);exact zg
 have e1:decide ((s.length:Int) < 1) = false:=zv (by omega)
 by_cases h2:s.length > 32
 ·have e2:decide ((s.length:Int) > 32) = true:=zu (by omega)
  have hw:xn s = false:=by rw [xn,zv (by omega:¬ (s.length:Int)≤32)];simp
  rw [hw]
  (have zx:=za e1 e2);exact zg
 have e2:decide ((s.length:Int) > 32) = false:=zv (by omega)
 have hwb:xn s = s.all (fun c=>aln c [45,95,46]):=by rw [xn,zu (by omega:(s.length:Int)≥1),zu (by omega:(s.length:Int)≤32)];simp
 rw [hwb]
 (have zx:=za e1 e2);refine zgo ?_;repeat' first|exact zt|apply zan|intro hc
 refine Qt (ι:=Nat) (fun k=>k≤s.length∧(s.take k).all (fun c=>aln c [45,95,46]) = true) (fun k=>[(3,V.int k)]) (fun k=>s.length - k) 0 (by omega) ⟨zw _,rfl⟩ zol zlt zet fun k hk K' hL=>?_
 obtain ⟨hk,hinv⟩:=hk
 simp only [ovT,Jn,Nat.reduceEqDiff,reduceIte]
 rcases hd:s.drop k with _|⟨c,r⟩
 ·have hkl:=Qj hd
  rw [zb hkl] at hinv
  have e3:decide ((k:Int) < ((s.length:Nat):Int)) = false:=by simp;omega
  rw [hinv]
  (have zx:=e3);exact zg
 ·obtain ⟨hk',hget,hr⟩:=Qe hd
  have hw:=Qd (k:=k) (by omega)
  have e3:decide ((k:Int) < ((s.length:Nat):Int)) = true:=by simp;omega
  have hb:=aoG c
  have hf:aqV c = true→s.all (fun c=>aln c [45,95,46]) = false:=fun h=>ky.2 ⟨c,zj hget,by rw [hb,h];decide⟩
  have hg:aqV c = false→(s.take (k + 1)).all (fun c=>aln c [45,95,46]) = true:=fun h=>acq hget hinv (by rw [hb,h];rfl)
  (have zx:=za e3 (za hw hget));refine zgo ?_;repeat' first|exact zt|apply zan|intro hc
  all_goals first|(rw [hf]<;>first|(simp [aqV, *];done)|exact zr)|exact hL _ (k + 1) zet ⟨by omega,hg (by simp [aqV, *])⟩ (by omega) zoe
end Av
end
