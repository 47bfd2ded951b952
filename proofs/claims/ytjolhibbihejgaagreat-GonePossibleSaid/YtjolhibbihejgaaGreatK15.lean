/- K15 -/
import Derived.Test.YtjolhibbihejgaaGreatK14
import Derived.Test.YtjolhibbihejgaaGreatK12
import Derived.KernelRfl
set_option linter.unusedVariables false
set_option linter.unusedSimpArgs false
noncomputable section
set_option maxRecDepth 10000
set_option maxHeartbeats 4000000
namespace Av
open Go
attribute [local irreducible] AWp UY qH yr awS awC aaT awQ abS Q1 Ub aaE awR Ux awB okR ym ris
def aaD (aj0:Nat):AC:=YN [1] (.reg [xo 1 (.box true 4 (.t 0)),mc 2 (V.int 0)]) (YN [1,3] (.reg [mc 3 (V.int 0)]) (YN [3] (YN [3,7,8,9] (.reg [fa 6 3 1,ld 7 1 6,ln 8 7,mc 9 (V.int 0)]) (.block 0 (aeD [3,7,8,9] (YN [3,7,8,9,10] (.reg [bn 10 .lss 9 8]) (YN [3,7,8,9] (.cond (.t 10) .skip (.exit 0)) (YN [3,7,8,9] (.block 1 (YN [3,5,7,8,9] (.reg [ia 11 4 7 9,xo 12 (.load true 4 (.t 11)),xo 5 (.alloc [.val vi0,.nil 1,.val (.bool false),.nil 4]),xs 4 5 12]) (.reg [mv 13 3,xo 14 (.load true 4 (.t 5)),cl 15 aj0 [14],xo 16 (.mm true [(.t 13),(.t 15)]),mv 3 16]))) (.reg [bc 17 .add 9 (V.int 1),mv 9 17]))))))) (YN [2] (.reg [mv 18 3,bc 19 .add 18 (V.int 1),mv 2 19]) .ret))) def bg:List Kk:=[.tmp 2]
def wZ (Γ:Env) (f:Nat):Prop:=∀ (x:Qn) (hx:x.siz < 2 ^ 40),EvN Γ f [x.v] (V.int x.dep)
attribute [local go_sem] Qn.v_eq Yh in
theorem aiG {Γ:Env} {f:Nat} (h:Has Γ.P f 20 (aaD f) bg) :wZ Γ f:=by
 suffices H:∀ (kk:Nat),∀ (x:Qn) (hx:x.siz < 2 ^ 40),x.siz < kk→EvN Γ f [x.v] (V.int x.dep) from fun x hx=>H _ x hx (kJ _)
 intro kk;induction kk with
 | zero=>intros;rename_i hk;exact absurd hk (kI _)
 | succ kk ih =>
 intro x hx hk
 refine Qa h zsi zcl zcl fun C hC hm=>?_
 subst hC
 unfold aaD
 obtain ⟨t,b,n,es⟩:=x
 simp only [Qn.v_eq,Qn.dep]
 have hsz:jP es < (Qn.mk t b n es).siz:=by rw [Qn.siz];omega
 have hle:=yH es
 have hdl:=aea es
 have hwe:IntKind.i64.wrap ((ahG es:Int) + 1) = ((ahG es + 1:Nat):Int):=Qg (by omega)
 have hlm:(es.map Qn.v).length = es.length:=zb _
 refine zgo ?_;repeat' first|exact zt|apply zan|intro hc
 refine Qs (ι:=Nat×Nat) (fun q=>q.1≤es.length∧max q.2 (ahG (es.drop q.1)) = ahG es) (fun q=>Yh [(3,V.int q.2),(7,.sl 4 (es.map Qn.v)),(8,V.int es.length),(9,V.int q.1)] [] 0) (fun q=>es.length - q.1) (0,0) ⟨zA _,by simp⟩ (Qf []) (Qo [] (by simp only [go_sem,zwl,hlm]<;>exact zcc) zwa (by simp [Qf]) (by simp) (by omega)) fun q hq K' hL=>?_
 obtain ⟨k,d⟩:=q
 simp only at hq hL ⊢
 obtain ⟨hk,hinv⟩:=hq
 rcases hd:es.drop k with _|⟨y,r⟩
 ·have hkl:=Qr hd
  have e1:decide ((k:Int) < (es.length:Int)) = false:=by simp;omega
  rw [hd] at hinv
  have hde:d = ahG es:=by rw [← hinv,ahG];omega
  subst hde
  (have zx:=za e1 hwe);exact zg
 ·obtain ⟨hk',hget,hr⟩:=Qk hd
  rw [hd] at hinv
  have hw:=Qg (k:=k) (by omega)
  have e1:decide ((k:Int) < (es.length:Int)) = true:=by simp;omega
  have hys:=wb hget
  obtain ⟨yt,yb,yn,ye⟩:=y
  have hi:=(ih (.mk yt yb yn ye) (by omega) (by omega)).b
  rw [Qn.v_eq] at hi
  have hmx:(if (d:Int) < (((Qn.mk yt yb yn ye).dep:Nat):Int) then (((Qn.mk yt yb yn ye).dep:Nat):Int) else (d:Int)) = ((max d (Qn.mk yt yb yn ye).dep:Nat):Int):=by split<;>omega
  have hsk:([V.int ((Qn.mk yt yb yn ye).dep:Nat)].all (Km IntKind.i64)) = true:=rfl
  (have zx:=za e1 (za hw (za hget (za hmx hsk))));refine zgo ?_;repeat' first|exact zt|apply zan|intro hc
  all_goals exact hL _ (k + 1,max d (Qn.mk yt yb yn ye).dep) (Qf []) ⟨hk',by rw [hr,← hinv];simp only [ahG];omega⟩ (by simp only;omega) (zwg [])
def WV:=qd Proofs.Tryz.f164 []
def UV (Γ:Env) (f:Nat):Prop:=∀ (b:List UInt8) (hb:b.length < 2 ^ 60),EvN Γ f [.sl 1 (JT b)] (V.int (ace b))
attribute [local go_sem] Yh in
theorem abG {Γ:Env} {f:Nat} (h:Has Γ.P f 20 WV.1.1.ac WV.1.2) :UV Γ f:=by
 intro b hb
 refine Qa h zsi zcl zcl fun C hC hm=>?_
 subst hC
 simp only [WV,qd,DC.ac]
 have hln:(JT b).length = b.length:=X7 b
 have hst:∀ h c,aei h c = IntKind.u32.wrap (IntKind.u32.wrap ((BitVec.ofInt IntKind.u32.bits h ^^^ BitVec.ofInt IntKind.u32.bits (IntKind.u32.wrap (c.toNat:Int))).toNat:Nat) * 16777619):=fun _ _=>rfl
 (have zx:=hln);refine zgo ?_;repeat' first|exact zt|apply zan|intro hc
 refine Qs (ι:=Nat×Int) (fun q=>q.1≤b.length∧alJ q.2 (b.drop q.1) = alJ 2166136261 b) (fun q=>Yh [(3,.sc (.int .u32 q.2)),(6,.sl 1 (JT b)),(7,V.int b.length),(8,V.int q.1)] [] 0) (fun q=>b.length - q.1) (0,2166136261) ⟨zA _,rfl⟩ (Qf []) (zwg []) fun q hq K' hL=>?_
 obtain ⟨k,h⟩:=q
 simp only at hq hL ⊢
 obtain ⟨hk,hinv⟩:=hq
 rcases hd:b.drop k with _|⟨y,r⟩
 ·have hkl:=Qr hd
  have e1:decide ((k:Int) < ((b.length:Nat):Int)) = false:=by simp;omega
  rw [hd] at hinv
  have hs:ace b = IntKind.i64.wrap h:=by rw [ace,← hinv];rfl
  rw [hs]
  (have zx:=za hln e1);exact zg
 ·obtain ⟨hk',hget,hr⟩:=Qk hd
  have hw:=Qg (k:=k) (by omega)
  have e1:decide ((k:Int) < ((b.length:Nat):Int)) = true:=by simp;omega
  have hg2:(JT b)[k]? = some (.sc (.int .u8 y.toNat)):=by rw [zk,hget];rfl
  rw [hd] at hinv
  repeat' (first|(refine zsk ?_;intro K' hK)|refine zsp ?_|(refine zsc ?_ ?_<;>intro hc<;>first|exact znh|try simp only [znz] at hc)|simp (maxSteps:=1000000) only [go_sem,Yh,hln,e1,hw,Int.toNat_natCast,hg2,← hst]|(refine hK _ ?_;clear hK K')|apply zan|exact zsq|fail)
  all_goals exact hL _ (k + 1,aei h y) (Qf []) ⟨hk',by rw [hr,← hinv];rfl⟩ (by simp only;omega) (zwg [])
def xe (n:Nat):Nat:=if n < 256 then 1 else 2
theorem amb {n:Nat} (h1:128≤n) (h2:n < 65536):adf n = u8i ((128 + xe n:Nat):Int) :: (if n < 256 then [u8i (n:Int)] else [u8i ((n / 256:Nat):Int),u8i (n:Int)]):=by
 have hu:∀ m:Nat,u8i ((m % 256:Nat):Int) = u8i (m:Int):=fun m=>by
  unfold u8i;congr 2;omega
 rw [adf,if_neg (by omega),beB,xe]
 by_cases h:n < 256
 ·rw [if_pos h,if_pos h]
  have hb:akn 8 n [] = [u8i (n:Int)]:=by
   rw [akn,if_neg (by omega),akn,if_pos (by omega),hu]
  rw [hb];rfl
 ·rw [if_neg h,if_neg h]
  have hb:akn 8 n [] = [u8i ((n / 256:Nat):Int),u8i (n:Int)]:=by
   rw [akn,if_neg (by omega),akn,if_neg (by omega),akn,if_pos (by omega),hu,hu]
  rw [hb];rfl
def tlN (n:Nat):List UInt8:=if n < 256 then [u8i (n:Int)] else [u8i ((n / 256:Nat):Int),u8i (n:Int)]
theorem aqU (n:Nat):(tlN n).length = xe n:=by unfold tlN xe;split<;>rfl
theorem aqV {n t:Nat} (h:t < xe n):(tlN n)[t]? = some (u8i ((n / 256 ^ (xe n - 1 - t):Nat):Int)):=by
 unfold tlN xe at *
 split at h
 ·obtain rfl:t = 0:=by omega
  rename_i h1;simp [h1]
 ·rename_i h1
  have:t = 0∨t = 1:=by omega
  rcases this with rfl|rfl<;>simp [h1]
def aos (n t:Nat) (xs:List V):St:=Yh [(0,.hd 1 0 (xs.length + 1 + t)),(1,V.int n),(7,V.int ((xe n:Int) - 1 - (t:Int)))] [(0,.dead),(1,.buf true 1 (xs++JT (u8i ((128 + xe n:Nat):Int) :: (tlN n).take t)))] 2
def aot (n k:Nat) (xs:List V):St:=Yh [(0,.hd 0 0 xs.length),(1,V.int n),(5,V.int k),(6,V.int (n / 256 ^ k:Nat))] [(0,.buf true 1 xs)] 1
def jI:=qd Proofs.Tryz.f243 []
def xL (Γ:Env) (f:Nat):Prop:=∀ (xs:List V) (n:Nat),n < 65536→xs.length < 2 ^ 39→EvI Γ f [V.int n] 1 xs (xs++JT (adf n))
attribute [local go_sem] Yh in
theorem ahf {Γ:Env} {f:Nat} (h:Has Γ.P f 43 jI.1.1.ac jI.1.2) :xL Γ f:=by
 intro xs n hn hxs
 refine yZ h (by simp) fun C hC hm=>?_
 subst hC
 simp only [jI,qd,DC.ac]
 have hu:=jo
 have htx:List.take xs.length xs = xs:=zN
 by_cases h1:n < 128
 ·have e1:decide ((n:Int) < 128) = true:=by simp;omega
  have hl:adf n = [u8i n]:=by rw [adf,if_pos h1]
  rw [hl]
  (have zx:=za e1 (za hu htx));refine zgo ?_;repeat' first|exact zt|apply zan|intro hc
  all_goals first|(refine aiK _ _ rfl ⟨_,rfl⟩ rfl (by omega) rfl ?_;first|rfl|(simp;done))
 ·have e1:decide ((n:Int) < 128) = false:=by simp;omega
  (have zx:=e1);refine zgo ?_;repeat' first|exact zt|apply zan|intro hc
  refine Qs (ι:=Nat) (fun k=>k≤xe n) (fun k=>aot n k xs) (fun k=>2 - k) 0 (zA _) (Qf []) (Qo [] (by simp only [go_sem,zwl,aot,Nat.pow_zero,Nat.div_one]<;>exact zcc) (by simp only [go_sem,zwl,aot]<;>exact zcc) (by simp [aot,Qf]) (by simp [aot]) (by omega)) fun k hk K' hL=>?_
  have hc2:xe n = 1∨xe n = 2:=by unfold xe;split<;>omega
  have hcn:(xe n = 1↔n < 256):=by unfold xe;split<;>omega
  have hk3:k = 0∨k = 1∨k = 2:=by omega
  have s8:(8:Int).toNat≤IntKind.i64.bits:=by decide
  have s9:(2:Int) ^ 8 = 256:=by decide
  by_cases hm0:n / 256 ^ k = 0
  rotate_left
  ·have hkc:k < xe n:=by
    rcases hk3 with rfl|rfl|rfl
    ·omega
    ·rw [Nat.pow_one] at hm0;omega
    ·rw [show 256 ^ 2 = 65536 by decide] at hm0;omega
   have e2:decide (((n / 256 ^ k:Nat):Int) > 0) = true:=by
    have:0 < n / 256 ^ k:=Nat.pos_of_ne_zero hm0
    exact zv (by omega)
   have hw:=Qg (k:=k) (by omega)
   have hdv:(((n / 256 ^ k:Nat):Int)).fdiv 256 = ((n / 256 ^ (k + 1):Nat):Int):=by
    rw [zS _ (by decide),Nat.pow_succ,← Nat.div_div_eq_div_mul];rfl
   simp only [aot]
   (have zx:=za e2 (za hw (za s8 (za s9 hdv))));refine zgo ?_;repeat' first|exact zt|apply zan|intro hc
   all_goals exact hL _ (k + 1) (Qf []) (by omega) (by omega) (Qo [] (by simp only [go_sem,zwl,aot]<;>exact zcc) (by simp only [go_sem,zwl,aot]<;>exact zcc) (by simp [aot,Qf]) (by simp [aot]) (by omega))
  have hkc:k = xe n:=by
   rcases hk3 with rfl|rfl|rfl
   ·rw [Nat.pow_zero,Nat.div_one] at hm0;omega
   ·rw [Nat.pow_one] at hm0;omega
   ·omega
  subst hkc
  clear hL
  have e2:decide (((n / 256 ^ (xe n):Nat):Int) > 0) = false:=by rw [hm0];rfl
  have hw1:IntKind.i64.wrap (128 + (xe n:Int)) = ((128 + xe n:Nat):Int):=by rw [Q9 (by omega) (by omega)];omega
  have hw2:IntKind.i64.wrap ((xe n:Int) - 1) = (xe n:Int) - 1:=Q9 (by omega) (by omega)
  simp only [aot]
  (have zx:=za e2 (za hw1 (za hw2 (za hu htx))));refine zgo ?_;repeat' first|exact zt|apply zan|intro hc
  have h0t:(xe n:Int) - 1 - ((0:Nat):Int) = (xe n:Int) - 1:=by omega
  refine Qs (ι:=Nat) (fun t=>t≤xe n) (fun t=>aos n t xs) (fun t=>xe n - t) 0 (zA _) (Qf [(1,7001)]) (Qo [(1,7001)] (by simp only [go_sem,zwl,aos,h0t,Int.sub_zero,Nat.add_zero]<;>exact zcc) (by simp only [go_sem,zwl,aos,List.take_zero,JT,zy,zw]<;>exact zcc) (by simp [aos,Qf]) (by simp [aos];omega) (by omega)) fun t ht K' hL=>?_
  have htl:=aqU n
  by_cases hte:t = xe n
  ·subst hte
   have e3:decide (((xe n:Int) - 1 - (xe n:Int))≥0) = false:=by simp;omega
   have hfin:xs++JT (u8i ((128 + xe n:Nat):Int) :: (tlN n).take (xe n)) = xs++JT (adf n):=by
    rw [amb (by omega) hn,zi (by omega)];rfl
   simp only [aos,hfin]
   have hlf:=congrArg List.length hfin
   have hlf2:xs.length + 1 + xe n = (xs++JT (adf n)).length:=by rw [← hlf];simp [JT,htl];omega
   clear hL
   (have zx:=e3);refine zgo ?_;repeat' first|exact zt|apply zan|intro hc
   all_goals (refine aiK _ _ rfl ⟨_,rfl⟩ rfl (by omega) rfl ?_;exact hlf2)
  obtain ⟨i,hi⟩:∃ i:Nat,i = xe n - 1 - t:=⟨_,rfl⟩
  have hi2:i = 0∨i = 1:=by omega
  have hic:(xe n:Int) - 1 - (t:Int) = (i:Int):=by omega
  have hnx:=aqV (n:=n) (t:=t) (by omega)
  rw [← hi] at hnx
  have hta:xs++JT (u8i ((128 + xe n:Nat):Int) :: (tlN n).take (t + 1)) = (xs++JT (u8i ((128 + xe n:Nat):Int) :: (tlN n).take t))++[V.sc (.int .u8 (u8i ((n / 256 ^ i:Nat):Int)).toNat)]:=by
   rw [zJ,hnx];simp [JT]
  have hlt:(xs++JT (u8i ((128 + xe n:Nat):Int) :: (tlN n).take t)).length = xs.length + 1 + t:=by
   simp [JT,htl];omega
  have g1:decide ((i:Int)≥0) = true:=by simp
  have g2:IntKind.i64.wrap (8 * (i:Int)) = 8 * (i:Int):=Q9 (by omega) (by omega)
  have g3:(0:Int)≤8 * (i:Int):=by omega
  have g4:(8 * (i:Int)).toNat≤64:=by omega
  have g5:IntKind.u8.wrap ((n:Int).fdiv (2 ^ (8 * (i:Int)).toNat)) = ((u8i ((n / 256 ^ i:Nat):Int)).toNat:Int):=by
   rw [jo];rcases hi2 with rfl|rfl
   ·simp
   ·rw [show (8 * ((1:Nat):Int)).toNat = 8 from rfl,show (2:Int) ^ 8 = 256 by decide,zS _ (by decide),Nat.pow_one];rfl
  have g6:IntKind.i64.wrap ((i:Int) - 1) = (xe n:Int) - 1 - ((t + 1:Nat):Int):=by rw [Q9 (by omega) (by omega)];omega
  simp only [aos,hic]
  generalize xs++JT (u8i ((128 + xe n:Nat):Int) :: (tlN n).take t) = out at *
  have hto:List.take (xs.length + 1 + t) out = out:=zi (by omega)
  have hta2:=hta
  simp only [JT,zy] at hta2
  have q1:(xs.length + 1 + t + 1) * 1≤2 ^ 40:=by omega
  have q2:xs.length + 1 + t + 1≤2 ^ 40:=by omega
  (have zx:=za g1 (za g2 (za g3 (za g4 (za g5 (za g6 (za hlt (za hto (za q1 q2)))))))));refine zgo ?_;repeat' first|exact zt|apply zan|intro hc
  all_goals first|omega|exact hL _ (t + 1) (Qf [(1,9002)]) (by omega) (by omega) (Qo [(1,9002)] (by simp only [go_sem,zwl,aos,← kG]<;>exact zcc) (by simp only [go_sem,zwl,aos,hta,hta2]<;>exact zcc) (by simp [aos,Qf]) (by simp [aos];omega) (by omega))
def Qn.eL:Qn→List Qn
 | .mk _ _ _ es=>es
def Qn.cB:Qn→List UInt8
 | .mk _ b _ es=>b++pL es
theorem as3 {es:List Qn} {y:Qn} (h:fL es = true) (hy:y∈es):y.fB = true:=by
 induction es with
 | nil=>cases hy
 | cons x r ih =>
   rw [fL,zC] at h
   rcases zo.1 hy with rfl|hy
   ·exact h.1
   ·exact ih h.2 hy
theorem asJ {es:List Qn} {y:Qn} (hy:y∈es):y.pB.length≤(pL es).length:=by
 induction es with
 | nil=>cases hy
 | cons x r ih =>
   rw [pL,zn]
   rcases zo.1 hy with rfl|hy
   ·omega
   ·have:=ih hy;omega
theorem ajG (es:List Qn) (k:Nat):(pL (es.take k)).length≤(pL es).length:=by
 induction es generalizing k with
 | nil=>simp [pL]
 | cons x r ih =>
   cases k with
   | zero=>simp [pL]
   | succ k=>have:=ih k;rw [List.take_succ_cons,pL,pL,zn,zn];omega
def atI (Γ:Env) (e:Nat) (y:Qn):Prop:=∀ xs:List UInt8,xs.length < 2 ^ 38→EvI Γ e [y.v] 1 (JT xs) (JT (xs++y.pB))
def dcS (es:List Qn) (k:Nat):St:=Yh [(3,.hd 0 0 (pL (es.take k)).length),(12,.sl 4 (es.map Qn.v)),(13,V.int es.length),(14,V.int k)] [(0,.buf true 1 (JT (pL (es.take k))))] 1
def Vp (yV:Nat):AC:=YN [1] (.reg [xo 1 (.box true 4 (.t 0)),xo 2 (.mknil 1)]) (YN [1] (YN [1,8] (.reg [fa 6 2 1,ld 7 1 6,xo 8 (.un .not (.t 7))]) (.cond (.t 8) (YN [2] (.reg [fa 9 1 1,ld 10 1 9,mv 2 10]) .ret) .skip)) (YN [1,3] (.reg [xo 3 (.mknil 1)]) (YN [3] (YN [3,12,13,14] (.reg [fa 11 3 1,ld 12 1 11,ln 13 12,mc 14 (V.int 0)]) (.block 0 (aeD [3,12,13,14] (YN [3,12,13,14,15] (.reg [bn 15 .lss 14 13]) (YN [3,12,13,14] (.cond (.t 15) .skip (.exit 0)) (YN [3,12,13,14] (.block 1 (YN [3,5,12,13,14] (.reg [ia 16 4 12 14,xo 17 (.load true 4 (.t 16)),xo 5 (.alloc [.val vi0,.nil 1,.val (.bool false),.nil 4]),xs 4 5 17]) (.reg [mv 18 3,xo 19 (.load true 4 (.t 5)),cl 20 yV [18,19],mv 3 20]))) (.reg [bc 21 .add 14 (V.int 1),mv 14 21]))))))) (YN [2] (.reg [mv 22 3,mv 2 22]) .ret)))) def bh:List Kk:=[.tmp 2]
def jd (Γ:Env) (f:Nat):Prop:=∀ (e:Nat),Has Γ.P f 23 (Vp e) bh→∀ x:Qn,x.fB = true→x.siz < 2 ^ 35→x.pB.length < 65536→(∀ y∈x.eL,atI Γ e y)→EvC Γ f [x.v] (.sl 1 (JT x.cB))
attribute [local go_sem] Yh in
theorem ae0 {Γ:Env} {f yV:Nat} (h:Has Γ.P f 23 (Vp yV) bh) :jd Γ f:=by
 clear h
 intro e h x hf hx hp he
 refine Ql h (by simp) (by simp only [V.closed]) fun C hC hm=>?_
 subst hC
 unfold Vp
 obtain ⟨t,b,n,es⟩:=x
 have hss:(Qn.mk t b n es).siz = 1 + b.length + jP es:=by rw [Qn.siz]
 have hle:=yH es
 simp only [Qn.v_eq,Qn.cB]
 rw [Qn.fB,zC] at hf
 obtain ⟨hh,hfl⟩:=hf
 simp only [Qn.eL] at he
 have hpp:(pL es).length < 65536:=by
  rw [Qn.pB,List.length_cons,zn,zn] at hp;omega
 simp only [hdB,zC,kS,Zm,Bool.not_eq_false',zB] at hh
 obtain ⟨_,_,hb,hn⟩:=hh
 rcases n with _|_
 ·have hes:es = []:=by
   rcases hn with hn|hn
   ·cases hn
   ·exact ky.1 (by omega)
  subst hes
  have e0:b++pL [] = b:=by simp [pL]
  rw [e0]
  exact zg
 ·have hbn:b = []:=by
   rcases hb with hb|hb
   ·cases hb
   ·exact ky.1 (by omega)
  subst hbn
  rw [List.nil_append]
  have hlm:(es.map Qn.v).length = es.length:=zb _
  refine zgo ?_;repeat' first|exact zt|apply zan|intro hc
  refine Qs (ι:=Nat) (fun k=>k≤es.length) (fun k=>dcS es k) (fun k=>es.length - k) 0 (zA _) (Qf [(0,5000)]) (Qo [(0,5000)] (by simp only [go_sem,zwl,dcS,hlm,List.take_zero,pL,List.length_nil]<;>exact zcc) (by simp only [go_sem,zwl,dcS,List.take_zero,pL,JT,zw]<;>exact zcc) (by simp [dcS,Qf]) (by simp [dcS];omega) (by omega)) fun k hk K' hL=>?_
  rcases hd:es.drop k with _|⟨y,r⟩
  ·have hkl:=Qr hd
   have e1:decide ((k:Int) < (es.length:Int)) = false:=by simp;omega
   rw [dcS,zi hkl]
   have htk:=Kl (pL es)
   (have zx:=e1);refine zgo ?_;repeat' first|exact zt|apply zan|intro hc
   all_goals first|(refine Qi _ rfl ?_;simp only [go_sem,zZ,JT,htk];done)|(refine Qi _ rfl ?_;simp only [go_sem];trace_state)
  ·obtain ⟨hk',hget,hr⟩:=Qk hd
   have hw:=Qg (k:=k) (by omega)
   have e1:decide ((k:Int) < (es.length:Int)) = true:=by simp;omega
   have hpt:=ajG es k
   have htk:=anp hget
   have hI:=he y (zq hget) (pL (es.take k)) (by omega)
   rw [← htk] at hI
   obtain ⟨yt,yb,yn,ye⟩:=y
   rw [Qn.v_eq] at hI
   have hl0:=X7 (pL (es.take k))
   have hl1:=X7 (pL (es.take (k + 1)))
   simp only [dcS]
   repeat' (first|(refine zsk ?_;intro K' hK)|refine zsp ?_|(refine zsc ?_ ?_<;>intro hc<;>first|exact znh|try simp only [znz] at hc)|simp (maxSteps:=1000000) only [go_sem,Yh,e1,hw,Int.toNat_natCast,zk,hget,Qn.v_eq,hl0,hl1]|(refine hK _ ?_;clear hK K')|apply zan|(apply ado;(focus exact rfl);(focus first|exact hI);(focus exact rfl);(focus exact rfl);(focus (first|exact rfl|(simp;done))))|(apply wE;(focus exact rfl);(focus exact rfl);(focus first|exact hI);(focus exact rfl);(focus (first|exact rfl|(simp;done)));(focus (first|exact rfl|(simp;done))))|exact zsq|fail)
   all_goals exact hL _ (k + 1) (Qf [(0,7001)]) hk' (by omega) (Qo [(0,7001)] (by simp only [go_sem,zwl,dcS]<;>exact zcc) (by simp only [go_sem,zwl,dcS]<;>exact zcc) (by simp [dcS,Qf]) (by simp [dcS];omega) (by omega))
def xv (XL jv:Nat):AC:=YN [0,3] (.reg [xo 3 (.box true 4 (.t 1)),xo 4 (.mknil 1)]) (YN [0,3,5] (.reg [xo 6 (.load true 4 (.t 3)),cl 7 XL [6],mv 5 7]) (YN [4] (.reg [mv 8 0,fa 9 0 3,ld 10 1 9,xo 11 (.convI .u8 (.t 10)),xo 12 (.bslice 1 1 false [(.int .u8 0)] [(0,(.t 11))]),xo 13 (.append 1 1 [(.int .u8 0)] (.t 8) (.t 12)),mv 14 5,ln 15 14,cl 16 jv [13,15],mv 17 5,xo 18 (.append 1 1 [(.int .u8 0)] (.t 16) (.t 17)),mv 4 18]) .ret)) def bj:List Kk:=[.tmp 4]
def yf (Γ:Env) (f:Nat):Prop:=∀ x:Qn,x.fB = true→x.siz < 2 ^ 35→x.pB.length < 65536→atI Γ f x∧EvW Γ f [at0,x.v] 1 (JT x.pB)
theorem afG {Γ:Env} {f XL jv:Nat} (h:Has Γ.P f 19 (xv XL jv) bj) (z0:jd Γ XL) (z1:xL Γ jv) (hH_der_contents:Has Γ.P XL 23 (Vp f) bh):yf Γ f:=by
 have H:∀ (kk:Nat) (x:Qn),x.siz < kk→x.fB = true→x.siz < 2 ^ 35→x.pB.length < 65536→EvC Γ XL [x.v] (.sl 1 (JT x.cB))∧atI Γ f x:=by
  intro kk
  induction kk with
  | zero=>intro x hk;omega
  | succ kk ih =>
    intro x hk hf hx hp
    have hch:∀ y∈x.eL,atI Γ f y:=by
     obtain ⟨t,b,n,es⟩:=x
     simp only [Qn.eL]
     intro y hy
     rw [Qn.fB,zC] at hf
     obtain ⟨i,hi⟩:=ZA.1 hy
     have h1:=wb hi
     have h2:=asJ hy
     rw [Qn.siz] at hk hx
     rw [Qn.pB,List.length_cons,zn,zn] at hp
     exact (ih y (by omega) (as3 hf.2 hy) (by omega) (by omega)).2
    have hc:=z0 f hH_der_contents x hf hx hp hch
    refine ⟨hc,fun xs hxs=>?_⟩
    refine yZ h (by simp) fun C hC hm=>?_
    subst hC
    unfold xv
    have hc:=hc.b
    obtain ⟨t,b,n,es⟩:=x
    simp only [Qn.v_eq] at hc ⊢
    have hpb:(Qn.mk t b n es).pB = u8i t :: (adf (Qn.mk t b n es).cB.length++(Qn.mk t b n es).cB):=by rw [Qn.pB];rfl
    rw [hpb] at hp ⊢
    generalize (Qn.mk t b n es).cB = cb at *
    rw [List.length_cons,zn] at hp
    have hl0:=X7 xs
    have hlc:=X7 cb
    have hu:=jo
    have hI:=z1 (JT xs++[V.sc (.int .u8 (u8i t).toNat)]) cb.length (by omega) (by rw [zn,hl0,List.length_singleton];omega)
    have htx:List.take xs.length (JT xs) = JT xs:=zi (by omega)
    repeat' (first|(refine zsk ?_;intro K' hK)|refine zsp ?_|(refine zsc ?_ ?_<;>intro hc<;>first|exact znh|try simp only [znz] at hc)|simp (maxSteps:=1000000) only [go_sem,hl0,hlc,hu,htx,VL]|(refine hK _ ?_;clear hK K')|apply zan|(apply ado;(focus exact rfl);(focus first|exact hI);(focus exact rfl);(focus exact rfl);(focus (first|exact rfl|(simp;done))))|(apply wE;(focus exact rfl);(focus exact rfl);(focus first|exact hI);(focus exact rfl);(focus (first|exact rfl|(simp;done)));(focus (first|exact rfl|(simp;done))))|(apply QJ;(focus first|exact hc))|exact zsq|fail)
    have hfin:List.take (JT xs++[V.sc (.int .u8 (u8i t).toNat)]++JT (adf cb.length)).length (JT xs++[V.sc (.int .u8 (u8i t).toNat)]++JT (adf cb.length))++JT cb = JT (xs++u8i t :: (adf cb.length++cb)):=by
     rw [zN];simp [JT]
    all_goals (refine aiK _ _ rfl ⟨_,rfl⟩ rfl (by omega) hfin ?_;simp [JT];omega)
 intro x hf hx hp
 obtain ⟨hc,hE⟩:=H _ x (kJ _) hf hx hp
 refine ⟨hE,?_⟩
 refine qO h (by simp) (by intro y hy;obtain ⟨c,_,rfl⟩:=kO.1 hy;trivial) fun C hC hm=>?_
 subst hC
 unfold xv
 have hc:=hc.b
 obtain ⟨t,b,n,es⟩:=x
 simp only [Qn.v_eq] at hc ⊢
 have hpb:(Qn.mk t b n es).pB = u8i t :: (adf (Qn.mk t b n es).cB.length++(Qn.mk t b n es).cB):=by rw [Qn.pB];rfl
 rw [hpb] at hp ⊢
 generalize (Qn.mk t b n es).cB = cb at *
 rw [List.length_cons,zn] at hp
 have hlc:=X7 cb
 have hu:=jo
 have hI:=z1 [V.sc (.int .u8 (u8i t).toNat)] cb.length (by omega) (by simp)
 repeat' (first|(refine zsk ?_;intro K' hK)|refine zsp ?_|(refine zsc ?_ ?_<;>intro hc<;>first|exact znh|try simp only [znz] at hc)|simp (maxSteps:=1000000) only [go_sem,hlc,hu,VL]|(refine hK _ ?_;clear hK K')|apply zan|(apply ado;(focus exact rfl);(focus first|exact hI);(focus exact rfl);(focus exact rfl);(focus (first|exact rfl|(simp;done))))|(apply wE;(focus exact rfl);(focus exact rfl);(focus first|exact hI);(focus exact rfl);(focus (first|exact rfl|(simp;done)));(focus (first|exact rfl|(simp;done))))|(apply QJ;(focus first|exact hc))|exact zsq|fail)
 all_goals (refine abL (xs:=V.sc (.int .u8 (u8i t).toNat) :: JT (adf cb.length++cb)) 15000 _ rfl ?_ ?_)
 ·simp [JT];omega
 ·show some (Ob.buf true 1 _) = _
  rw [zN];simp [JT]
def aqF (a n:Int):Int:=if n < 1 then 0 else (IntKind.i64.wrap (a.tmod n + n)).tmod n
def vD:=qd Proofs.Tryz.f29 []
def aaQ (Γ:Env) (f:Nat):Prop:=∀ (a n:Int),EvN Γ f [V.int a,V.int n] (V.int (aqF a n))
theorem aj6 {Γ:Env} {f:Nat} (h:Has Γ.P f 14 vD.1.1.ac vD.1.2) :aaQ Γ f:=by
 intro a n
 refine Qa h zsi zcl zcl fun C hC hm=>?_
 subst hC
 simp only [vD,qd,DC.ac]
 refine zgo ?_;repeat' first|exact zt|apply zan|intro hc
 ·refine Qi _ rfl ?_
  simp only [go_sem]
  simp [aqF,hc]
 ·refine Qi _ rfl ?_
  simp only [go_sem]
  simp [aqF,hc]
def Wd (x:Int):Nat→List Int→Int
 | _,[]=>-1
 | k,y :: r=>if x = y then k else Wd x (k + 1) r
def J9:=qd Proofs.Tryz.f104 []
def J2 (Γ:Env) (f:Nat):Prop:=∀ (l:List Int) (x:Int) (hl:l.length < 2 ^ 62),EvN Γ f [.sl 1 (l.map V.int),V.int x] (V.int (Wd x 0 l))
theorem jU {Γ:Env} {f:Nat} (h:Has Γ.P f 19 J9.1.1.ac J9.1.2) :J2 Γ f:=by
 intro l x hl
 refine Qa h zsi zcl zcl fun C hC hm=>?_
 subst hC
 simp only [J9,qd,DC.ac]
 refine zgo ?_;repeat' first|exact zt|apply zan|intro hc
 refine Jg (ι:=Nat) (fun k=>k≤l.length∧Wd x k (l.drop k) = Wd x 0 l) (fun k=>[(8,V.int k)]) (fun k=>l.length - k) 0 (by omega) ⟨by simp,by simp⟩ zol zlt zet fun k hk K' hL=>?_
 obtain ⟨hk,hinv⟩:=hk
 simp only [ovT,Yr,Nat.reduceEqDiff,reduceIte]
 rcases hd:l.drop k with _|⟨y,r⟩
 ·have:=Qr hd
  rw [hd] at hinv
  refine zgo ?_;repeat' first|exact zt|apply zan|intro hc
  refine Qi _ rfl ?_
  simp only [go_sem]
  rw [← hinv];rfl
 ·obtain ⟨hk,hget,hr⟩:=Qk hd
  rw [hd] at hinv
  have hw:=Qg (k:=k) (by omega)
  (have zx:=za hget hw);refine zgo ?_;repeat' first|exact zt|apply zan|intro hc
  ·refine Qi _ rfl ?_
   simp only [go_sem]
   rw [← hinv];simp [Wd,hc]
  ·refine hL _ (k + 1) zet ⟨by omega,?_⟩ (by omega) (fun a ha=>rfl)
   rw [hr,← hinv];simp [Wd,hc]
def JP:=qd Proofs.Tryz.f74 []
def Q6 (Γ:Env) (f:Nat):Prop:=∀ (l:List Int) (x:Int) (hl:l.length < 2 ^ 62),EvN Γ f [.sl 1 (l.map V.int),V.int x] (V.bool (decide (Wd x 0 l≥0)))
theorem K7 {Γ:Env} {f:Nat} (h:Has Γ.P f 9 JP.1.1.ac JP.1.2) (z0:J2 Γ 104):Q6 Γ f:=by
 intro l x hl
 refine Qa h zsi zcl zcl fun C hC hm=>?_
 subst hC
 simp only [JP,qd,DC.ac]
 refine zgo ?_;repeat' first|exact zt|apply zan|intro hc
 refine Qi _ rfl ?_
 simp only [go_sem]
structure afp where
 name:List UInt8
 kind:Int
 way:Int
 sizes:List Int
 strengths:List Int
 deriving DecidableEq
def afp.v (r:afp):List V:=[V.str r.name,V.int r.kind,V.int r.way,.sl 1 (r.sizes.map V.int),.sl 1 (r.strengths.map V.int)]
def apl:afp:=⟨[],0,0,[],[]⟩
def ji:List afp:=[apl,⟨[109,100,53],1,0,[],[18]⟩,⟨[115,104,97,49],1,0,[],[60]⟩,⟨[115,104,97,50,53,54],1,0,[],[128]⟩,⟨[115,104,97,51,56,52],1,0,[],[192]⟩,⟨[114,115,97],2,1,[],[]⟩,⟨[100,115,97],2,1,[],[]⟩,⟨[101,99,100,115,97],2,2,[],[]⟩,⟨[101,100,50,53,53,49,57],2,0,[],[128]⟩,⟨[109,108,100,115,97],2,3,[44,65,87],[128,192,256]⟩,⟨[114,115,97,107,120],3,1,[],[]⟩,⟨[100,104,101],3,1,[],[]⟩,⟨[101,99,100,104,101],3,2,[],[]⟩,⟨[109,108,107,101,109],3,3,[512,768,1024],[128,192,256]⟩,⟨[114,99,52],4,3,[40,128],[40,60]⟩,⟨[100,101,115,51],4,3,[112,168],[80,112]⟩,⟨[97,101,115,99,98,99],4,3,[128,256],[128,256]⟩,⟨[97,101,115,103,99,109],4,3,[128,256],[128,256]⟩,⟨[99,104,97,99,104,97],4,0,[],[256]⟩,⟨[104,109,97,99,109,100,53],5,0,[],[64]⟩,⟨[104,109,97,99,115,104,97,49],5,0,[],[80]⟩,⟨[104,109,97,99,115,104,97,50,53,54],5,0,[],[128]⟩,⟨[97,101,97,100],5,0,[],[256]⟩]
def ajy:List V:=ji.flatMap afp.v
def Wh (a:Int):afp:=if 1≤a∧a≤22 then ji.getD a.toNat apl else apl
theorem agl {α β:Type} {f:α→List β} {n:Nat} (h:∀ x,(f x).length = n):∀ (l:List α) (k:Nat) (hk:k < l.length),((l.flatMap f).drop (k * n)).take n = f l[k]
 | [],k,hk=>by simp at hk
 | x :: l,0,_=>by simp [List.take_append_of_le_length,h x]
 | x :: l,k + 1,hk=>by
   have e:(k + 1) * n = (f x).length + k * n:=by rw [h x,zL];omega
   rw [ZP,e,← Zf,List.drop_left]
   exact agl h l k (by simpa using hk)
theorem anj:ajy.length = 115:=rfl
theorem akK (a:Int) (h1:1≤a) (h2:a≤22):(ajy.drop (a.toNat * 5)).take 5 = (Wh a).v:=by
 have hl:ji.length = 23:=rfl
 have hk:a.toNat < ji.length:=by omega
 rw [ajy,agl (f:=afp.v) (n:=5) (fun _=>rfl) ji a.toNat hk,Wh,if_pos ⟨h1,h2⟩,zK,zd hk,Option.getD_some]
theorem amz (r:afp):Qd r.v:=by simp [afp.v,Qd,V.closed]
theorem aki:Qd ajy:=amA (by
 simp only [ajy,List.mem_flatMap]
 rintro v ⟨r,_,hr⟩
 simp [afp.v] at hr
 rcases hr with rfl|rfl|rfl|rfl|rfl<;>trivial)
def Kx:=qd Proofs.Tryz.f181 []
def jf (Γ:Env) (f:Nat):Prop:=EvC Γ f [] (.agg ajy)
theorem ae2 {Γ:Env} {f:Nat} (h:Has Γ.P f 46 Kx.1.1.ac Kx.1.2) :jf Γ f:=by
 refine Ql h zsi (aki) fun C hC hm=>?_
 subst hC
 simp only [Kx,qd,DC.ac]
 refine zgo ?_;repeat' first|exact zt|apply zan|intro hc
 refine Qi _ rfl ?_
 simp only [ajy,ji,apl,afp.v,ZP,List.flatMap_nil,go_sem,Nat.reduceAdd,Nat.reduceMul,Nat.reduceEqDiff,Nat.reduceLeDiff,Nat.reduceLT,Nat.reduceSub,Int.reduceEq,Int.reduceBEq,Int.reduceLT,Int.reduceLE,Int.reduceAdd,Int.reduceToNat,reduceIte,reduceCtorEq]
def jL:=qd Proofs.Tryz.f135 []
def qz (Γ:Env) (f:Nat):Prop:=∀ (a:Int),EvC Γ f [V.int a] (.tup [.agg (Wh a).v,V.bool (decide (1≤a∧a≤22))])
theorem ahk {Γ:Env} {f:Nat} (h:Has Γ.P f 14 jL.1.1.ac jL.1.2) (z0:jf Γ 181):qz Γ f:=by
 intro a
 refine Ql h zsi (⟨amz _,trivial,trivial⟩) fun C hC hm=>?_
 subst hC
 simp only [jL,qd,DC.ac]
 repeat' (first|(refine zsk ?_;intro K' hK)|refine zsp ?_|(refine zsc ?_ ?_<;>intro hc<;>first|exact znh|try simp only [znz] at hc)|simp (maxSteps:=1000000) only [go_sem]|(refine hK _ ?_;clear hK K')|apply zan|(apply QJ;(focus first|exact EvC.b z0))|exact zsq|fail)
 ·refine Qi _ rfl ?_
  rw [Wh,if_neg (by omega)]
  simp only [go_sem,afp.v,apl,zw,and_self]
  simp;omega
 ·rw [anj];omega
 ·rw [akK a (by omega) (by omega)];rfl
 ·rw [akK a (by omega) (by omega)]
  refine Qi _ rfl ?_
  simp only [go_sem,afp.v,List.length_cons,List.length_nil,go_sem]
  simp;omega
 ·refine Qi _ rfl ?_
  rw [Wh,if_neg (by omega)]
  simp only [go_sem,afp.v,apl,zw,and_self]
  simp;omega
def ama (b:Int):List (Int×Int)→Int
 | []=>256
 | (x,y) :: r=>if b < x then y else ama b r
def amR:List (Int×Int):=[(1024,56),(2048,80),(3072,112),(7680,128),(15360,192)]
def WX:=qd Proofs.Tryz.f137 []
def UW (Γ:Env) (f:Nat):Prop:=∀ (b:Int),EvN Γ f [V.int b] (V.int (ama b amR))
attribute [local go_sem] Int.reduceLE Int.reduceLT Int.reduceToNat in
theorem abI {Γ:Env} {f:Nat} (h:Has Γ.P f 21 WX.1.1.ac WX.1.2) :UW Γ f:=by
 intro b
 refine Qa h zsi zcl zcl fun C hC hm=>?_
 subst hC
 simp only [WX,qd,DC.ac]
 refine zgo ?_;repeat' first|exact zt|apply zan|intro hc
 refine Jg (ι:=Int) (fun k=>0≤k∧k≤5∧ama b (amR.drop k.toNat) = ama b amR) (fun k=>[(11,V.int k)]) (fun k=>(5 - k).toNat) 0 (by omega) ⟨by simp,by simp,rfl⟩ zol zlt zet fun k hk K' hL=>?_
 obtain ⟨hk0,hk,hinv⟩:=hk
 simp only [ovT,Yr,Nat.reduceEqDiff,reduceIte]
 rcases (by omega:k = 0∨k = 1∨k = 2∨k = 3∨k = 4∨k = 5) with rfl|rfl|rfl|rfl|rfl|rfl
 all_goals refine zgo ?_;repeat' first|exact zt|apply zan|intro hc
 all_goals first
  | (refine Qi _ rfl ?_;simp only [go_sem];rw [← hinv];first|rfl|simp [amR,ama,hc])
  | (refine hL _ 1 zet ⟨by omega,by omega,?_⟩ (by decide) zoe;rw [← hinv];simp [amR,ama,hc])
  | (refine hL _ 2 zet ⟨by omega,by omega,?_⟩ (by decide) zoe;rw [← hinv];simp [amR,ama,hc])
  | (refine hL _ 3 zet ⟨by omega,by omega,?_⟩ (by decide) zoe;rw [← hinv];simp [amR,ama,hc])
  | (refine hL _ 4 zet ⟨by omega,by omega,?_⟩ (by decide) zoe;rw [← hinv];simp [amR,ama,hc])
  | (refine hL _ 5 zet ⟨by omega,by omega,?_⟩ (by decide) zoe;rw [← hinv];simp [amR,ama,hc])
def Ky:=qd Proofs.Tryz.f97 []
def Xo (Γ:Env) (f:Nat):Prop:=∀ (a:Int),EvN Γ f [V.int a] (V.int (Wh a).kind)
attribute [local go_sem] afp.v in
theorem ae3 {Γ:Env} {f:Nat} (h:Has Γ.P f 12 Ky.1.1.ac Ky.1.2) (z0:qz Γ 135):Xo Γ f:=by
 intro a
 refine Qa h zsi zcl zcl fun C hC hm=>?_
 subst hC
 simp only [Ky,qd,DC.ac]
 refine zgo ?_;repeat' first|exact zt|apply zan|intro hc
 refine Qi _ rfl ?_;simp only [go_sem]
def qD (R:afp) (ok:Bool) (b:Int):Int :=
 if ok = false then 0
 else if R.way = 0 then (if b = 0 then R.strengths.headD 0 else 0)
 else if R.way = 1 then (if 512≤b∧b≤16384 then ama b amR else 0)
 else if R.way = 2 then (if Wd b 0 [160,224,256,384,521]≥0 then IntKind.i64.wrap (b.tdiv 2) else 0)
 else if R.way = 3 then (if Wd b 0 R.sizes≥0 then R.strengths.getD (Wd b 0 R.sizes).toNat 0 else 0)
 else 0
def Qv (a b:Int):Int:=qD (Wh a) (decide (1≤a∧a≤22)) b
def afp.ok (r:afp):Bool:=(r.way != 0 || !r.strengths.isEmpty) && (r.way != 3 || r.sizes.length == r.strengths.length) && decide (r.sizes.length < 10)
theorem arS (a:Int) (ha:1≤a∧a≤22):(Wh a).ok = true:=by
 have h:∀ r∈ji.drop 1,r.ok = true:=by decide
 have hl:ji.length = 23:=rfl
 have hk:a.toNat < ji.length:=by omega
 rw [Wh,if_pos ha,zK,zd hk,Option.getD_some]
 have hk':a.toNat - 1 < (ji.drop 1).length:=by simp;omega
 have:=h _ (zM hk')
 rw [List.getElem_drop] at this
 have e:1 + (a.toNat - 1) = a.toNat:=by omega
 simp only [e] at this
 exact this
theorem ald (x:Int):∀ (l:List Int) (k:Nat),Wd x k l = -1∨(k≤Wd x k l∧Wd x k l < k + l.length)
 | [],k=>.inl rfl
 | y :: r,k=>by
   unfold Wd
   split
   ·right;simp;omega
   ·rcases ald x r (k + 1) with h|⟨h1,h2⟩
    ·exact .inl h
    ·right;simp only [List.length_cons];omega
def X6:=qd Proofs.Tryz.f99 []
def V0 (Γ:Env) (f:Nat):Prop:=∀ (a b:Int),EvN Γ f [.agg [V.int a,V.int b]] (V.int (Qv a b))
attribute [local go_sem] afp.v in
theorem aaw {Γ:Env} {f:Nat} (h:Has Γ.P f 61 X6.1.1.ac X6.1.2) (z0:qz Γ 135) (z1:UW Γ 137) (z2:Q6 Γ 74) (z3:J2 Γ 104):V0 Γ f:=by
 intro a b
 refine Qa h zsi zcl zcl fun C hC hm=>?_
 subst hC
 simp only [X6,qd,DC.ac]
 have hc5:=z2 [160,224,256,384,521] b (by simp)
 by_cases ha:1≤a∧a≤22
 ·have hd:decide (1≤a∧a≤22) = true:=by simp [ha]
  have ok:=arS a ha
  have fl:=ald b (Wh a).sizes 0
  rcases hR:Wh a with ⟨nm,kd,wy,sz,st⟩
  rw [hR] at ok fl
  simp only [afp.ok,zC,kH,zO,bne_iff_ne,Zv] at ok
  rcases st with _|⟨x,st⟩
  ·(have zy0:=hc5.b;have zx:=za hR hd);refine zgo ?_;repeat' first|exact zt|apply zan|intro hc
   all_goals first
    | (refine Qi _ rfl ?_;simp only [go_sem];simp [Qv,qD,hR, *];done)
    | (exfalso;simp only [ZJ,List.length_cons,List.length_nil,List.isEmpty_nil] at hst fl ok;omega)
    | (exfalso;simp only [List.length_nil] at fl ok;omega)
    | (exfalso;simp_all;done)
  ·rcases hst:(x :: st)[(Wd b 0 sz).toNat]? with _|v
   ·have hs2:(V.int x :: List.map V.int st)[(Wd b 0 sz).toNat]? = none:=by rw [← zy,zk,hst];rfl
    (have zy0:=hc5.b;have zx:=za hR (za hd hs2));refine zgo ?_;repeat' first|exact zt|apply zan|intro hc
    all_goals first
     | (refine Qi _ rfl ?_;simp only [go_sem];simp [Qv,qD,hR, *];done)
     | (exfalso;simp only [ZJ,List.length_cons,List.length_nil,List.isEmpty_nil] at hst fl ok;omega)
     | (exfalso;simp_all;done)
   ·have hs2:(V.int x :: List.map V.int st)[(Wd b 0 sz).toNat]? = some (V.int v):=by rw [← zy,zk,hst];rfl
    (have zy0:=hc5.b;have zx:=za hR (za hd hs2));refine zgo ?_;repeat' first|exact zt|apply zan|intro hc
    all_goals first
     | (refine Qi _ rfl ?_;simp only [go_sem];simp [Qv,qD,hR, *];done)
     | (exfalso;simp only [ZJ,List.length_cons,List.length_nil,List.isEmpty_nil] at hst fl ok;omega)
     | (exfalso;simp_all;done)
 ·have hd:decide (1≤a∧a≤22) = false:=by simp [ha]
  (have zx:=hd);refine zgo ?_;repeat' first|exact zt|apply zan|intro hc
  refine Qi _ rfl ?_;simp only [go_sem]
  simp [Qv,qD,hd]
end Av
end
