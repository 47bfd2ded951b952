/- Calls whose arguments show objects from within. -/
import Derived.Test.YtjolhibbihejgaaGreatK13
import Derived.KernelRfl
import Derived.Test.YtjolhibbihejgaaGreatK12
set_option linter.unusedVariables false
set_option linter.unusedSimpArgs false
noncomputable section
set_option maxRecDepth 10000
set_option maxHeartbeats 4000000
namespace Av
open Go
attribute [local irreducible] AWp UY qH yr awS awC aaT awQ abS Q1 Ub aaE awR Ux awB okR ym ris
inductive Qn where
 | mk (tag:Int) (bytes:List UInt8) (nest:Bool) (els:List Qn)
abbrev JT (b:List UInt8):List V:=b.map fun c=>V.sc (.int .u8 c.toNat)
mutual
def Qn.v:Qn→V
 | .mk t b n es=>.agg [V.int t,.sl 1 (JT b),V.bool n,.sl 4 (ao8 es)]
def ao8:List Qn→List V
 | []=>[]
 | x :: r=>x.v :: ao8 r
end
theorem ahO:∀ es,ao8 es = es.map Qn.v
 | []=>rfl
 | x :: r=>by rw [ao8,ahO r];rfl
theorem Qn.v_eq (t:Int) (b:List UInt8) (n:Bool) (es:List Qn):(Qn.mk t b n es).v = .agg [V.int t,.sl 1 (JT b),V.bool n,.sl 4 (es.map Qn.v)]:=by rw [Qn.v,ahO]
theorem Qn.v_agg:∀ x:Qn,∃ cs,x.v = .agg cs∧cs.length = 4∧Qd cs∧x.v.cells = cs
 | .mk t b n es=>⟨_,Qn.v_eq t b n es,rfl,⟨trivial,trivial,trivial,trivial,trivial⟩,by rw [Qn.v_eq];rfl⟩
theorem Qn.v_closed (x:Qn):x.v.closed:=by cases x;rw [Qn.v_eq];simp only [V.closed,Qd,and_self]
def u8i (x:Int):UInt8:=UInt8.ofNat (x % 256).toNat
theorem jo (x:Int):IntKind.u8.wrap x = ((u8i x).toNat:Int):=by
 have e1:IntKind.u8.bits = 8:=rfl
 have e2:IntKind.u8.signed = false:=rfl
 simp only [IntKind.wrap,e1,e2,zY,u8i]
 simp [UInt8.toNat_ofNat'];omega
def yv (x:Int) (b:List UInt8):Bool:=(!(x == 0) && !(x == -1)) || ((x == 0 && decide ((128:Int)≤((b.headD 0).toNat:Int))) || (x == -1 && decide (((b.headD 0).toNat:Int) < 128)))
def adx:Nat→Int→List UInt8→List UInt8
 | 0,_,b=>b
 | k + 1,x,b=>if yv x b then adx k (x.fdiv 256) (u8i x :: b) else b
def apR (n:Int):List UInt8:=adx 9 (n.fdiv 256) [u8i n]
def Wn (n:Int):Qn:=.mk 2 (apR n) false []
theorem apo {j:Nat} {x:Int} (h1:-(256:Int) ^ (j + 1)≤x) (h2:x < (256:Int) ^ (j + 1)):-(256:Int) ^ j≤x.fdiv 256∧x.fdiv 256 < (256:Int) ^ j:=by
 rw [zS _ (by decide)]
 rw [Int.pow_succ] at h1 h2
 generalize (256:Int) ^ j = P at *
 constructor<;>omega
def an6 (n:Int) (j:Nat) (x:Int) (b:List UInt8):Prop :=
 b≠[]∧b.length≤10 - j∧j≤9∧adx j x b = apR n∧(-9223372036854775808≤x∧x < 9223372036854775808)∧(j = 0→yv x b = false)∧(∀ i,j = i + 1→-(256:Int) ^ i≤x∧x < (256:Int) ^ i)
theorem ajS {n:Int} (h0:-9223372036854775808≤n) (h1:n < 9223372036854775808):an6 n 9 (n.fdiv 256) [u8i n]:=by
 have h2:-(256:Int) ^ 8≤n.fdiv 256∧n.fdiv 256 < (256:Int) ^ 8:=by
  rw [zS _ (by decide)]
  have:(256:Int) ^ 8 = 18446744073709551616:=by decide
  rw [this];constructor<;>omega
 refine ⟨by simp,by simp,by omega,rfl,?_,by omega,fun i hi=>?_⟩
 ·rw [zS _ (by decide)];constructor<;>omega
 ·obtain rfl:i = 8:=by omega
  exact h2
theorem amd {n:Int} {j:Nat} {x:Int} {b:List UInt8} (h:an6 n j x b) (hm:yv x b = true):∃ i,j = i + 1∧an6 n i (x.fdiv 256) (u8i x :: b):=by
 obtain ⟨h1,h2,h3,h4,h5,h6,h7⟩:=h
 rcases j with _|i
 ·rw [h6 rfl] at hm;cases hm
 refine ⟨i,rfl,by simp,by simp;omega,by omega,?_,?_,fun hi=>?_,fun k hk=>?_⟩
 ·rw [← h4,adx,if_pos hm]
 ·rw [zS _ (by decide)];constructor<;>omega
 ·subst hi
  have:=h7 0 rfl
  simp only [Int.pow_zero] at this
  have hx:x = 0∨x = -1:=by omega
  rcases hx with rfl|rfl<;>rfl
 ·subst hk
  exact apo (h7 _ rfl).1 (h7 _ rfl).2
theorem an5 {n:Int} {j:Nat} {x:Int} {b:List UInt8} (h:an6 n j x b) (hm:yv x b = false):b = apR n:=by
 obtain ⟨h1,h2,h3,h4,h5,h6,h7⟩:=h
 rw [← h4]
 cases j with
 | zero=>rfl
 | succ i=>rw [adx,if_neg (by rw [hm];decide)]
abbrev at0:V:=.sc (.slice none 0 0)
theorem aia {x:Int} {c:UInt8} {t:List UInt8} {p q r:Bool} (hp:(x == 0) = p) (hq:(x == -1) = q) (hr:decide ((c.toNat:Int) < 128) = r):yv x (c :: t) = ((!p && !q) || ((p && !r) || (q && r))):=by
 have h2:(decide ((128:Int)≤(c.toNat:Int))) = !r:=by rw [← hr];by_cases h:(c.toNat:Int) < 128<;>simp [h]<;>omega
 unfold yv
 rw [hp,hq]
 show ((!p && !q) || ((p && decide ((128:Int)≤(c.toNat:Int))) || (q && decide ((c.toNat:Int) < 128)))) = _
 rw [h2,hr]
theorem agY {c:UInt8} {r:Bool} (hr:decide ((c.toNat:Int) < 128) = r):decide ((c.toNat:Int)≥128) = !r:=by rw [← hr];by_cases h:(c.toNat:Int) < 128<;>simp [h]<;>omega
def xl:=qd Proofs.Tryz.f131 []
def jM (Γ:Env) (f:Nat):Prop:=∀ (n:Int) (h0:-9223372036854775808≤n) (h1:n < 9223372036854775808),EvC Γ f [V.int n] ((Wn n).v)
attribute [local go_sem] VL Yh jo in
theorem aiA {Γ:Env} {f:Nat} (h:Has Γ.P f 45 xl.1.1.ac xl.1.2) :jM Γ f:=by
 intro n h0 h1
 refine Ql h zsi (Qn.v_closed _) fun C hC hm=>?_
 subst hC
 simp only [xl,qd,DC.ac]
 simp only [Wn,Qn.v_eq]
 have s8:(8:Int).toNat≤IntKind.i64.bits:=by decide
 have s9:(2:Int) ^ 8 = 256:=by decide
 (have zx:=za s8 s9);refine zgo ?_;repeat' first|exact zt|apply zan|intro hc
 refine Qs (ι:=Nat×Int×List UInt8) (fun q=>an6 n q.1 q.2.1 q.2.2) (fun q=>Yh [(2,.ptr 0 0),(3,.hd 1 0 q.2.2.length),(4,V.int q.2.1)] [(0,.box true [V.int 0,.hd 2 0 0,V.bool false,.hd 3 0 0]),(1,.buf true 1 (JT q.2.2)),(2,.buf true 1 []),(3,.buf true 4 [])] 4) (fun q=>q.1) (9,n.fdiv 256,[u8i n]) (ajS h0 h1) (Qf [(1,3000),(3,4)]) (Qo [(1,3000),(3,4)] (by simp only [go_sem,zwl,JT,zy,zw,List.length_cons,List.length_nil]<;>exact zcc) (by simp only [go_sem,zwl,JT,zy,zw,List.length_cons,List.length_nil]<;>exact zcc) (by simp [Qf]) (by simp;omega) (by omega)) fun q hq K' hL=>?_
 obtain ⟨j,x,b⟩:=q
 simp only at hq hL ⊢
 rcases b with _|⟨c,t⟩
 ·exact absurd rfl hq.1
 have hlen:=hq.2.1
 rw [List.length_cons] at hlen
 have htl:t.length≤10:=by omega
 have hbnd:=hq.2.2.2.2.1
 have tk:List.take t.length (t.map fun c=>V.sc (.int .u8 c.toNat)) = t.map fun c=>V.sc (.int .u8 c.toNat):=zi (by simp)
 have hgo:=hq.2.2.2.1
 rcases hmm:yv x (c :: t) with _|_
 ·have hbe:=an5 hq hmm
  rcases hp:(x == 0) with _|_<;>rcases hv:(x == -1) with _|_<;>rcases hr:decide ((c.toNat:Int) < 128) with _|_
  all_goals
   have hm:=aia (t:=t) hp hv hr
   have hge:=agY hr
   have hp2:(x != 0) = !(x == 0):=rfl
   have hv2:(x != -1) = !(x == -1):=rfl
   rw [hp] at hp2
   rw [hv] at hv2
   rw [hmm] at hm
   simp only [Zd,ku,Zx,Zh,kY,Bool.or_false,Bool.and_self,Bool.or_self,Bool.true_eq_false,zD] at hm hge hp2 hv2
  all_goals
   (have zx:=za s8 (za s9 (za hge (za hr (za hp (za hv (za hp2 (za hv2 tk))))))));refine zgo ?_;repeat' first|exact zt|apply zan|intro hc
  all_goals first|(rw [← hbe];refine Qi _ rfl ?_;simp only [go_sem,JT,zy,List.take_succ_cons,zZ,tk];done)|(rw [← hbe];refine Qi _ rfl ?_;simp only [go_sem,JT,zy,List.take_succ_cons,zZ,tk];trace_state)
 ·obtain ⟨i,rfl,hn⟩:=amd hq hmm
  rcases hp:(x == 0) with _|_<;>rcases hv:(x == -1) with _|_<;>rcases hr:decide ((c.toNat:Int) < 128) with _|_
  all_goals
   have hm:=aia (t:=t) hp hv hr
   have hge:=agY hr
   have hp2:(x != 0) = !(x == 0):=rfl
   have hv2:(x != -1) = !(x == -1):=rfl
   rw [hp] at hp2
   rw [hv] at hv2
   rw [hmm] at hm
   simp only [Zd,ku,Zx,Zh,kY,Bool.or_false,Bool.and_self,Bool.or_self,Bool.true_eq_false,zD] at hm hge hp2 hv2
  all_goals
   (have zx:=za s8 (za s9 (za hge (za hr (za hp (za hv (za hp2 (za hv2 tk))))))));refine zgo ?_;repeat' first|exact zt|apply zan|intro hc
  all_goals exact hL _ (i,x.fdiv 256,u8i x :: c :: t) (Qf [(1,30004)]) hn (kJ _) (Qo [(1,30004)] (by simp only [go_sem,zwl,JT,zy,List.length_cons,zb,Nat.add_comm 1]<;>exact zcc) (by simp only [go_sem,zwl,JT,zy]<;>exact zcc) (by simp [Qf]) (by simp;omega) (by omega))
def hiI (n:Int):Nat→Int
 | 0=>n
 | k + 1=>(hiI n k).fdiv 256
def tbI (n:Int):Nat→List UInt8
 | 0=>[]
 | k + 1=>u8i (hiI n k) :: tbI n k
def as0 (c d:UInt8):Bool:=((c.toNat:Int) == 0 && decide ((d.toNat:Int) < 128)) || ((c.toNat:Int) == 255 && decide ((d.toNat:Int)≥128))
def ahS:List UInt8→List UInt8
 | c :: d :: r=>if as0 c d then ahS (d :: r) else c :: d :: r
 | l=>l
theorem acd (x:Int):((u8i x).toNat:Int) = x % 256:=by
 unfold u8i
 simp [UInt8.toNat_ofNat'];omega
theorem agB (n:Int):∀ k,(tbI n k).length = k
 | 0=>rfl
 | k + 1=>by rw [tbI,List.length_cons,agB n k]
theorem ad3 (n:Int) (k:Nat):yv (hiI n (k + 1)) (tbI n (k + 1)) = false↔(hiI n (k + 1) = 0∧((u8i (hiI n k)).toNat:Int) < 128)∨(hiI n (k + 1) = -1∧(128:Int)≤((u8i (hiI n k)).toNat:Int)):=by
 rw [tbI,yv]
 generalize hiI n (k + 1) = x
 generalize u8i (hiI n k) = c
 simp only [List.headD_cons]
 rcases h1:x == 0 with _|_<;>rcases h2:x == -1 with _|_<;>simp only [Zv,Zb,ne_eq] at h1 h2<;>simp only [Zd,ku,zP,zY,Bool.or_false,Z4,kZ,zB,reduceCtorEq,false_iff]<;>first|omega|grind
theorem ak8 (n:Int) (k:Nat):hiI n k = 256 * hiI n (k + 1) + ((u8i (hiI n k)).toNat:Int):=by
 rw [acd,hiI,zS _ (by decide)];omega
theorem arv {n:Int} {k:Nat} (h:yv (hiI n (k + 1)) (tbI n (k + 1)) = false):yv (hiI n (k + 2)) (tbI n (k + 2)) = false:=by
 rw [ad3] at h ⊢
 have h1:=ak8 n (k + 1)
 have h2:=acd (hiI n (k + 1))
 have h3:hiI n (k + 2) = (hiI n (k + 1)).fdiv 256:=rfl
 rw [zS _ (by decide)] at h3
 show (hiI n (k + 2) = 0∧((u8i (hiI n (k + 1))).toNat:Int) < 128)∨(hiI n (k + 2) = -1∧(128:Int)≤((u8i (hiI n (k + 1))).toNat:Int))
 rcases h with ⟨h,_⟩|⟨h,_⟩
 ·left;rw [h] at h2 h3;exact ⟨by omega,by rw [h];omega⟩
 ·right;rw [h] at h2 h3;exact ⟨by omega,by rw [h];omega⟩
theorem ahR {n:Int} {k:Nat} (h:yv (hiI n (k + 2)) (tbI n (k + 2)) = false):ahS (tbI n (k + 2)) = if yv (hiI n (k + 1)) (tbI n (k + 1)) = false then ahS (tbI n (k + 1)) else tbI n (k + 2):=by
 rw [ad3] at h
 have h1:=ak8 n (k + 1)
 have hk:(as0 (u8i (hiI n (k + 1))) (u8i (hiI n k)) = true)↔yv (hiI n (k + 1)) (tbI n (k + 1)) = false:=by
  rw [ad3,as0]
  have a1:=(u8i (hiI n (k + 1))).toNat_lt
  have a2:=(u8i (hiI n k)).toNat_lt
  simp only [kH,zC,Zv,zO]
  constructor<;>intro h'<;>omega
 have e:tbI n (k + 2) = u8i (hiI n (k + 1)) :: u8i (hiI n k) :: tbI n k:=rfl
 have e':tbI n (k + 1) = u8i (hiI n k) :: tbI n k:=rfl
 rw [e,ahS]
 by_cases hi:as0 (u8i (hiI n (k + 1))) (u8i (hiI n k)) = true
 ·rw [if_pos hi,if_pos (hk.1 hi),e']
 ·rw [if_neg hi,if_neg (fun h'=>hi (hk.2 h'))]
theorem ajp {n:Int}:∀ (m k j:Nat),m≤j→(k = 0∨yv (hiI n k) (tbI n k) = true)→yv (hiI n (k + 1 + m)) (tbI n (k + 1 + m)) = false→ahS (tbI n (k + 1 + m)) = adx j (hiI n (k + 1)) (tbI n (k + 1))
 | 0,k,j,_,hk,h=>by
   have e:adx j (hiI n (k + 1)) (tbI n (k + 1)) = tbI n (k + 1):=by
    cases j with
    | zero=>rfl
    | succ i=>rw [adx,if_neg (by rw [h];decide)]
   rw [Nat.add_zero] at h ⊢
   rw [e]
   rcases k with _|k
   ·rfl
   ·rw [ahR h,if_neg]
    rcases hk with hk|hk
    ·omega
    ·rw [hk];decide
 | m + 1,k,j,hj,hk,h=>by
   have up:∀ m,yv (hiI n (k + 1)) (tbI n (k + 1)) = false→yv (hiI n (k + 1 + m)) (tbI n (k + 1 + m)) = false:=fun m h0=>by
    induction m with
    | zero=>exact h0
    | succ m ih=>rw [show k + 1 + (m + 1) = k + m + 2 by omega];exact arv (by rw [show k + m + 1 = k + 1 + m by omega];exact ih)
   obtain ⟨i,rfl⟩:∃ i,j = i + 1:=⟨j - 1,by omega⟩
   rcases hm:yv (hiI n (k + 1)) (tbI n (k + 1)) with _|_
   ·have h1:=up m hm
    have h2:=ajp m k (i + 1) (by omega) hk h1
    rw [← h2]
    have h3:yv (hiI n (k + m + 2)) (tbI n (k + m + 2)) = false:=by rw [show k + m + 2 = k + 1 + (m + 1) by omega];exact h
    rw [show k + 1 + (m + 1) = k + m + 2 by omega,ahR h3,show k + m + 1 = k + 1 + m by omega,if_pos h1]
   ·rw [adx,if_pos hm]
    have h2:=ajp m (k + 1) i (by omega) (.inr hm) (by rw [show k + 1 + 1 + m = k + 1 + (m + 1) by omega];exact h)
    rw [show k + 1 + 1 + m = k + 1 + (m + 1) by omega] at h2
    exact h2
theorem apf {n:Int} (h0:-9223372036854775808≤n) (h1:n < 9223372036854775808):ahS (tbI n 8) = apR n:=by
 have h:=ajp (n:=n) 7 0 9 (by omega) (.inl rfl) (by
  rw [ad3,acd]
  simp only [hiI]
  simp only [zS _ (show (0:Int)≤256 by decide)]
  have:=acd ((((((((n / 256) / 256) / 256) / 256) / 256) / 256) / 256))
  omega)
 exact h
mutual
def Qn.siz:Qn→Nat
 | .mk _ b _ es=>1 + b.length + jP es
def jP:List Qn→Nat
 | []=>0
 | x :: r=>x.siz + jP r
end
mutual
def Qn.dep:Qn→Nat
 | .mk _ _ _ es=>ahG es + 1
def ahG:List Qn→Nat
 | []=>0
 | x :: r=>max x.dep (ahG r)
end
theorem aq4:∀ x:Qn,1≤x.siz
 | .mk _ _ _ _=>by rw [Qn.siz];omega
theorem yH:∀ es:List Qn,es.length≤jP es
 | []=>zm _
 | x :: r=>by have:=yH r;have:=aq4 x;rw [jP,List.length_cons];omega
theorem wb {es:List Qn} {x:Qn}:∀ {k:Nat},es[k]? = some x→x.siz≤jP es:=by
 induction es with
 | nil=>intro k h;simp at h
 | cons y r ih =>
   intro k h
   rw [jP]
   cases k with
   | zero=>simp at h;subst h;omega
   | succ k=>have:=ih (k:=k) (by simpa using h);omega
mutual
theorem arO:∀ x:Qn,x.dep≤x.siz
 | .mk _ b _ es=>by have:=aea es;rw [Qn.dep,Qn.siz];omega
theorem aea:∀ es:List Qn,ahG es≤jP es
 | []=>zm _
 | x :: r=>by have:=arO x;have:=aea r;rw [ahG,jP];omega
end
def akH (n:Int):Bool:=decide (n≥1) && (decide (n≤255) && (n.tmod 32 != 31))
def xj:=qd Proofs.Tryz.f177 []
def wT (Γ:Env) (f:Nat):Prop:=∀ (n:Int),EvN Γ f [V.int n] (V.bool (akH n))
theorem aiy {Γ:Env} {f:Nat} (h:Has Γ.P f 14 xj.1.1.ac xj.1.2) :wT Γ f:=by
 intro n
 refine Qa h zsi zcl zcl fun C hC hm=>?_
 subst hC
 simp only [xj,qd,DC.ac]
 rcases h1:decide (n≥1) with _|_<;>rcases h2:decide (n≤255) with _|_
 all_goals
  have e:akH n = (decide (n≥1) && (decide (n≤255) && (n.tmod 32 != 31))):=rfl
  rw [h1,h2] at e
  simp only [zY,zP] at e
  rw [e]
  (have zx:=za h1 h2);exact zg
def xk (ag0:Nat):AC:=YN [1] (.reg [xo 1 (.box true 4 (.t 0)),mc 2 (V.int 0)]) (YN [1,3] (.reg [mc 3 (V.int 0)]) (YN [3] (YN [1,3,4] (.reg [mc 4 (V.int 0)]) (.block 0 (aeD [1,3,4] (YN [1,3,4] (YN [1,3,4,9] (.reg [mv 5 4,fa 6 3 1,ld 7 1 6,ln 8 7,bn 9 .lss 5 8]) (.cond (.t 9) .skip (.exit 0))) (YN [1,3,4] (.block 1 (.reg [mv 12 3,fa 13 3 1,ld 14 1 13,mv 15 4,ia 16 4 14 15,xo 17 (.load true 4 (.t 16)),cl 18 ag0 [17],xo 19 (.mm true [(.t 12),(.t 18)]),mv 3 19])) (.reg [mv 10 4,bc 11 .add 10 (V.int 1),mv 4 11])))))) (YN [2] (.reg [mv 20 3,bc 21 .add 20 (V.int 1),mv 2 21]) .ret))) def Z7:List Kk:=[.tmp 2]
def yc (Γ:Env) (f:Nat):Prop:=∀ (x:Qn) (hx:x.siz < 2 ^ 40),EvN Γ f [x.v] (V.int x.dep)
attribute [local go_sem] Qn.v_eq in
theorem afE {Γ:Env} {f:Nat} (h:Has Γ.P f 22 (xk f) Z7) :yc Γ f:=by
 suffices H:∀ (kk:Nat),∀ (x:Qn) (hx:x.siz < 2 ^ 40),x.siz < kk→EvN Γ f [x.v] (V.int x.dep) from fun x hx=>H _ x hx (kJ _)
 intro kk;induction kk with
 | zero=>intros;rename_i hk;exact absurd hk (kI _)
 | succ kk ih =>
 intro x hx hk
 refine Qa h zsi zcl zcl fun C hC hm=>?_
 subst hC
 unfold xk
 obtain ⟨t,b,n,es⟩:=x
 simp only [Qn.v_eq,Qn.dep]
 have hsz:jP es < (Qn.mk t b n es).siz:=by rw [Qn.siz];omega
 have hle:=yH es
 have hdl:=aea es
 have hwe:IntKind.i64.wrap ((ahG es:Int) + 1) = ((ahG es + 1:Nat):Int):=Qg (by omega)
 refine zgo ?_;repeat' first|exact zt|apply zan|intro hc
 refine Jg (ι:=Nat×Nat) (fun q=>q.1≤es.length∧max q.2 (ahG (es.drop q.1)) = ahG es) (fun q=>[(3,V.int q.2),(4,V.int q.1)]) (fun q=>es.length - q.1) (0,0) (by omega) ⟨zA _,by simp⟩ zol zlt zet fun q hq K' hL=>?_
 obtain ⟨k,d⟩:=q
 simp only at hq hL ⊢
 obtain ⟨hk,hinv⟩:=hq
 simp only [ovT,Yr,Nat.reduceEqDiff,reduceIte]
 rcases hd:es.drop k with _|⟨y,r⟩
 ·have hkl:=Qr hd
  have e1:decide ((k:Int) < (((es.map Qn.v).length:Nat):Int)) = false:=by simp;omega
  rw [hd] at hinv
  have hde:d = ahG es:=by rw [← hinv,ahG];omega
  subst hde
  (have zx:=za e1 hwe);exact zg
 ·obtain ⟨hk',hget,hr⟩:=Qk hd
  rw [hd] at hinv
  have hw:=Qg (k:=k) (by omega)
  have e1:decide ((k:Int) < (((es.map Qn.v).length:Nat):Int)) = true:=by simp;omega
  have hys:=wb hget
  obtain ⟨yt,yb,yn,ye⟩:=y
  have hi:=(ih (.mk yt yb yn ye) (by omega) (by omega)).b
  rw [Qn.v_eq] at hi
  have hmx:(if (d:Int) < (((Qn.mk yt yb yn ye).dep:Nat):Int) then (((Qn.mk yt yb yn ye).dep:Nat):Int) else (d:Int)) = ((max d (Qn.mk yt yb yn ye).dep:Nat):Int):=by split<;>omega
  have hsk:([V.int ((Qn.mk yt yb yn ye).dep:Nat)].all (Km IntKind.i64)) = true:=rfl
  (have zx:=za e1 (za hw (za hget (za hmx hsk))));refine zgo ?_;repeat' first|exact zt|apply zan|intro hc
  all_goals exact hL _ (k + 1,max d (Qn.mk yt yb yn ye).dep) zet ⟨hk',by rw [hr,← hinv];simp only [ahG];omega⟩ (by simp only;omega) zoe
def hdB (t:Int) (b:List UInt8) (n:Bool) (es:List Qn):Bool:=akH t && (!(n != ((t.tdiv 32).tmod 2 == 1)) && (!(n && decide ((b.length:Int) > 0)) && !(!n && decide ((es.length:Int) > 0))))
mutual
def Qn.fB:Qn→Bool
 | .mk t b n es=>hdB t b n es && fL es
def fL:List Qn→Bool
 | []=>true
 | x :: r=>x.fB && fL r
end
theorem am5 {t:Int} (h:akH t = true):1≤t∧t≤255:=by
 simp only [akH,zC,zO] at h
 exact ⟨h.1,h.2.1⟩
theorem X7 (b:List UInt8):(JT b).length = b.length:=zb _
theorem arJ {es:List Qn} {k:Nat} {y:Qn} (h:es[k]? = some y) (hf:y.fB = false):fL es = false:=by
 induction es generalizing k with
 | nil=>simp at h
 | cons x r ih =>
   rw [fL]
   cases k with
   | zero=>simp at h;subst h;rw [hf];rfl
   | succ k=>rw [ih (k:=k) (by simpa using h),Zh]
def j0 (yU afy:Nat):AC:=YN [1] (.reg [xo 1 (.box true 4 (.t 0)),mc 2 (V.bool false)]) (YN [1] (YN [1,38] (.reg [fa 4 0 1,ld 5 1 4,cl 6 yU [5],xo 7 (.un .not (.t 6)),mv 8 7,xg 9 (.faddr 2 (.t 1)) 8 false,xg 10 (.load false 1 (.t 9)) 8 false,xg 11 (.faddr 0 (.t 1)) 8 false,xg 12 (.load false 1 (.t 11)) 8 false,xg 13 (.bin .quo (.t 12) (.c (V.int 32))) 8 false,xg 14 (.bin .rem (.t 13) (.c (V.int 2))) 8 false,xg 15 (.bin .eql (.t 14) (.c (V.int 1))) 8 false,xg 16 (.eqb true (.t 10) (.t 15)) 8 false,xo 17 (.pick (.t 8) (.c (V.bool true)) (.t 16)),mv 18 17,xg 19 (.faddr 2 (.t 1)) 18 false,xg 20 (.load false 1 (.t 19)) 18 false,mg 21 20 18 false,xg 22 (.faddr 1 (.t 1)) 21 true,xg 23 (.load false 1 (.t 22)) 21 true,xg 24 (.lenL (.t 23)) 21 true,xg 25 (.bin .gtr (.t 24) (.c (V.int 0))) 21 true,xg 26 (.pick (.t 21) (.t 25) (.c (V.bool false))) 18 false,xo 27 (.pick (.t 18) (.c (V.bool true)) (.t 26)),mv 28 27,xg 29 (.faddr 2 (.t 1)) 28 false,xg 30 (.load false 1 (.t 29)) 28 false,xg 31 (.un .not (.t 30)) 28 false,mg 32 31 28 false,xg 33 (.faddr 3 (.t 1)) 32 true,xg 34 (.load false 1 (.t 33)) 32 true,xg 35 (.lenL (.t 34)) 32 true,xg 36 (.bin .gtr (.t 35) (.c (V.int 0))) 32 true,xg 37 (.pick (.t 32) (.t 36) (.c (V.bool false))) 28 false,xo 38 (.pick (.t 28) (.c (V.bool true)) (.t 37))]) (.cond (.t 38) (YN [2] (.reg [mc 2 (V.bool false)]) .ret) .skip)) (YN [] (YN [1,3] (.reg [mc 3 (V.int 0)]) (.block 0 (aeD [1,3] (YN [1,3] (YN [1,3,43] (.reg [mv 39 3,fa 40 3 1,ld 41 1 40,ln 42 41,bn 43 .lss 39 42]) (.cond (.t 43) .skip (.exit 0))) (YN [1,3] (.block 1 (YN [1,3,52] (.reg [fa 46 3 1,ld 47 1 46,mv 48 3,ia 49 4 47 48,xo 50 (.load true 4 (.t 49)),cl 51 afy [50],xo 52 (.un .not (.t 51))]) (.cond (.t 52) (YN [2] (.reg [mc 2 (V.bool false)]) .ret) .skip))) (.reg [mv 44 3,bc 45 .add 44 (V.int 1),mv 3 45])))))) (YN [2] (.reg [mc 2 (V.bool true)]) .ret))) def Z8:List Kk:=[.tmp 2]
def qZ (Γ:Env) (f:Nat):Prop:=∀ (x:Qn) (hx:x.siz < 2 ^ 40),EvN Γ f [x.v] (V.bool x.fB)
attribute [local go_sem] Qn.v_eq in
theorem aeV {Γ:Env} {f yU:Nat} (h:Has Γ.P f 53 (j0 yU f) Z8) (z0:wT Γ yU):qZ Γ f:=by
 suffices H:∀ (kk:Nat),∀ (x:Qn) (hx:x.siz < 2 ^ 40),x.siz < kk→EvN Γ f [x.v] (V.bool x.fB) from fun x hx=>H _ x hx (kJ _)
 intro kk;induction kk with
 | zero=>intros;rename_i hk;exact absurd hk (kI _)
 | succ kk ih =>
 intro x hx hk
 refine Qa h zsi zcl zcl fun C hC hm=>?_
 subst hC
 unfold j0
 obtain ⟨t,b,n,es⟩:=x
 simp only [Qn.v_eq,Qn.fB]
 have hsz:jP es < (Qn.mk t b n es).siz:=by rw [Qn.siz];omega
 have hle:=yH es
 have htg:=(z0 t).b
 have hlb:((JT b).length:Int) = (b.length:Int):=by rw [X7]
 have hle2:((es.map Qn.v).length:Int) = (es.length:Int):=by rw [zb]
 have hdl:hdB t b n es = (akH t && (!(n != ((t.tdiv 32).tmod 2 == 1)) && (!(n && decide ((b.length:Int) > 0)) && !(!n && decide ((es.length:Int) > 0))))):=rfl
 refine alu fun K' hK=>?_
 simp (maxSteps:=1000000) only [go_sem]
 refine hK _ ?_
 clear hK
 clear K'
 (try simp only [go_sem])
 refine aqk (ι:=Unit) (fun _=>hdB t b n es = true) (fun _=>Yh [(1,.ptr 0 0)] [(0,.box true [V.int t,.sl 1 (JT b),V.bool n,.sl 4 (es.map Qn.v)])] 1) (fun K' hK'=>?_) (fun _ hgood=>?_)
 ·rcases h1:akH t with _|_
  ·have hf:hdB t b n es = false:=by rw [hdl,h1];rfl
   rw [hf]
   rw [h1] at htg
   exact zg
  ·rw [h1] at htg
   have htb:=am5 h1
   have hwq:IntKind.i64.wrap (t.tdiv 32) = t.tdiv 32:=by
    rw [ZG (by omega)];exact Q9 (by omega) (by omega)
   rcases n with _|_<;>rcases h3:((t.tdiv 32).tmod 2 == 1) with _|_<;>rcases h4:decide ((b.length:Int) > 0) with _|_<;>rcases h5:decide ((es.length:Int) > 0) with _|_
   all_goals
    rw [h1,h3,h4,h5] at hdl
    simp only [Zd,ku,Zx,Zh,zP,zY,Bool.bne_true,Bool.bne_false,Bool.true_bne,Bool.false_bne,bne_self_eq_false] at hdl
    (have zx:=za hlb (za hle2 (za hwq (za h3 (za h4 h5)))));refine zgo ?_;repeat' first|exact zt|apply zan|intro hc
   all_goals first|(rw [hdl];refine Qi _ rfl ?_;simp only [go_sem];done)|exact hK' _ () (Qf []) hdl (zwg [])
 ·rw [hgood,zP]
  simp only [Yh]
  refine zgo ?_;repeat' first|exact zt|apply zan|intro hc
  refine Jg (ι:=Nat) (fun k=>k≤es.length∧fL (es.drop k) = fL es) (fun k=>[(3,V.int k)]) (fun k=>es.length - k) 0 (by omega) ⟨zA _,by simp⟩ zol zlt zet fun k hk K' hL=>?_
  obtain ⟨hk,hinv⟩:=hk
  simp only [ovT,Yr,Nat.reduceEqDiff,reduceIte]
  rcases hd:es.drop k with _|⟨y,r⟩
  ·have hkl:=Qr hd
   have e1:decide ((k:Int) < (((es.map Qn.v).length:Nat):Int)) = false:=by simp;omega
   rw [hd] at hinv
   rw [← hinv,fL]
   (have zx:=e1);exact zg
  ·obtain ⟨hk',hget,hr⟩:=Qk hd
   rw [hd,fL] at hinv
   have hw:=Qg (k:=k) (by omega)
   have e1:decide ((k:Int) < (((es.map Qn.v).length:Nat):Int)) = true:=by simp;omega
   have hys:=wb hget
   obtain ⟨yt,yb,yn,ye⟩:=y
   have hi:=(ih (.mk yt yb yn ye) (by omega) (by omega)).b
   rw [Qn.v_eq] at hi
   rcases hy:(Qn.mk yt yb yn ye).fB with _|_
   ·rw [hy] at hi
    rw [arJ hget hy]
    (have zx:=za e1 (za hw hget));exact zg
   ·rw [hy,zP] at hinv
    rw [hy] at hi
    (have zx:=za e1 (za hw hget));refine zgo ?_;repeat' first|exact zt|apply zan|intro hc
    all_goals exact hL _ (k + 1) zet ⟨hk',by rw [hr,← hinv]⟩ (by omega) zoe
def akn:Nat→Nat→List UInt8→List UInt8
 | 0,_,b=>b
 | k + 1,n,b=>if n = 0 then b else akn k (n / 256) (u8i ((n % 256:Nat):Int) :: b)
def beB (n:Nat):List UInt8:=akn 8 n []
def adf (n:Nat):List UInt8:=if n < 128 then [u8i n] else u8i ((128 + (beB n).length:Nat):Int) :: beB n
theorem alt:∀ (k n:Nat) (b:List UInt8),(akn k n b).length≤k + b.length
 | 0,_,b=>by rw [akn];omega
 | k + 1,n,b=>by
   rw [akn];split
   ·omega
   ·have:=alt k (n / 256) (u8i ((n % 256:Nat):Int) :: b)
    rw [List.length_cons] at this;omega
theorem asb (n:Nat):(beB n).length≤8:=alt 8 n []
theorem ak0 (n:Nat):(adf n).length≤9:=by
 have:=asb n
 rw [adf];split
 ·simp
 ·rw [List.length_cons];omega
theorem Kl (t:List UInt8):List.take t.length (t.map fun c=>V.sc (.int .u8 c.toNat)) = t.map fun c=>V.sc (.int .u8 c.toNat):=zi (by simp)
def Kt:=qd Proofs.Tryz.f178 []
def qY (Γ:Env) (f:Nat):Prop:=∀ (n:Nat) (hn:n < 2 ^ 60),EvC Γ f [V.int n] (.sl 1 (JT (adf n)))
attribute [local go_sem] VL Yh in
theorem aeU {Γ:Env} {f:Nat} (h:Has Γ.P f 26 Kt.1.1.ac Kt.1.2) :qY Γ f:=by
 intro n hn
 refine Ql h zsi zcl fun C hC hm=>?_
 subst hC
 simp only [Kt,qd,DC.ac]
 have hu:=jo
 by_cases h1:n < 128
 ·have e1:decide ((n:Int) < 128) = true:=by simp;omega
  have hl:adf n = [u8i n]:=by rw [adf,if_pos h1]
  rw [hl]
  (have zx:=za e1 hu);exact zg
 ·have e1:decide ((n:Int) < 128) = false:=by simp;omega
  have hl:adf n = u8i ((128 + (beB n).length:Nat):Int) :: beB n:=by rw [adf,if_neg h1]
  rw [hl]
  (have zx:=e1);refine zgo ?_;repeat' first|exact zt|apply zan|intro hc
  have hp8:(256:Nat) ^ 8 = 18446744073709551616:=by decide
  refine Qs (ι:=Nat×Nat×List UInt8) (fun q=>akn q.1 q.2.1 q.2.2 = beB n∧q.2.1 < 256 ^ q.1∧q.2.2.length + q.1 = 8∧q.2.1≤n) (fun q=>Yh [(0,V.int q.2.1),(3,.hd 0 0 q.2.2.length)] [(0,.buf true 1 (JT q.2.2))] 1) (fun q=>q.1) (8,n,[]) ⟨rfl,by simp only [hp8];omega,rfl,zm _⟩ (Qf [(0,3000)]) (Qo [(0,3000)] (by simp only [go_sem,zwl,List.length_nil]<;>exact zcc) (by simp only [go_sem,zwl,JT,zw]<;>exact zcc) (by simp [Qf]) (by simp;omega) (by omega)) fun q hq K' hL=>?_
  obtain ⟨j,m,c⟩:=q
  simp only at hq hL ⊢
  obtain ⟨g1,g2,g3,g4⟩:=hq
  have htk:=Kl c
  by_cases hm0:m = 0
  ·subst hm0
   have g1:c = beB n:=by
    rw [← g1]
    cases j with
    | zero=>rfl
    | succ j=>rw [akn,if_pos rfl]
   subst g1
   have hgt:decide (((0:Nat):Int) > 0) = false:=rfl
   have hlb:(128:Int) + ((beB n).length:Int) = ((128 + (beB n).length:Nat):Int):=by omega
   have hw1:IntKind.i64.wrap ((128 + (beB n).length:Nat):Int) = ((128 + (beB n).length:Nat):Int):=Q9 (by omega) (by omega)
   (have zx:=za hgt (za hlb (za hw1 (za hu htk))));refine zgo ?_;repeat' first|exact zt|apply zan|intro hc
   all_goals (refine Qi _ rfl ?_;simp only [go_sem,JT,zy,Nat.add_comm 1,zb,List.take_succ_cons,zZ,htk];done)
  ·rcases j with _|j
   ·rw [Nat.pow_zero] at g2;omega
   have hgt:decide ((m:Int) > 0) = true:=by simp;omega
   have e3:((m:Int).tmod 256) = ((m % 256:Nat):Int):=by rw [ZH (by omega)];omega
   have e4:IntKind.i64.wrap ((m:Int).tdiv 256) = ((m / 256:Nat):Int):=by rw [ZG (by omega)];rw [Q9 (by omega) (by omega)];omega
   rw [akn,if_neg hm0] at g1
   rw [Nat.pow_succ] at g2
   (have zx:=za hgt (za e3 (za e4 (za hu htk))));refine zgo ?_;repeat' first|exact zt|apply zan|intro hc
   all_goals exact hL _ (j,m / 256,u8i ((m % 256:Nat):Int) :: c) (Qf [(0,7001)]) ⟨g1,Nat.div_lt_of_lt_mul (by rw [Z5];exact g2),by simp only [List.length_cons];omega,Zs (Nat.div_le_self _ _) g4⟩ (kJ _) (Qo [(0,7001)] (by simp only [go_sem,zwl,JT,zy,List.length_cons,zb,Nat.add_comm 1]<;>exact zcc) (by simp only [go_sem,zwl,JT,zy]<;>exact zcc) (by simp [Qf]) (by simp;omega) (by omega))
mutual
def Qn.pB:Qn→List UInt8
 | .mk t b _ es=>u8i t :: (adf (b++pL es).length++(b++pL es))
def pL:List Qn→List UInt8
 | []=>[]
 | x :: r=>x.pB++pL r
end
mutual
theorem akP:∀ x:Qn,x.pB.length≤10 * x.siz
 | .mk t b _ es=>by
   have:=aqz es
   have h2:=ak0 (b++pL es).length
   rw [Qn.pB,Qn.siz,List.length_cons,zn]
   rw [zn] at *
   omega
theorem aqz:∀ es:List Qn,(pL es).length≤10 * jP es
 | []=>zm _
 | x :: r=>by have:=akP x;have:=aqz r;rw [pL,jP,zn];omega
end
theorem anp {es:List Qn} {k:Nat} {y:Qn} (h:es[k]? = some y):pL (es.take (k + 1)) = pL (es.take k)++y.pB:=by
 induction es generalizing k with
 | nil=>simp at h
 | cons x r ih =>
   cases k with
   | zero=>simp at h;subst h;simp [pL]
   | succ k=>rw [List.take_succ_cons,List.take_succ_cons,pL,pL,ih (by simpa using h),ko]
theorem alW (es:List Qn) (k:Nat):(pL (es.take k)).length≤10 * jP es:=by
 induction es generalizing k with
 | nil=>simp [pL]
 | cons x r ih =>
   cases k with
   | zero=>simp [pL]
   | succ k=>have:=ih k;have:=akP x;rw [List.take_succ_cons,pL,jP,zn];omega
def abT:List (List Nat):=[[],[0],[1],[2],[],[4],[5],[3,6,6],[],[7,8,7],[9,9,0,1,2,3,4,5,6,7,8,9]]
def aaZ:OT:=och 0 11
@[go_sem] def yL (Jt:Nat):OP:=oN 0 (fa 24 0 1) (oN 1 (ld 25 1 24) (oN 2 (xo 26 (.convI .u8 (.t 25))) (oN 3 (xo 27 (.bslice 1 1 false [(.int .u8 0)] [(0,(.t 26))])) (oN 4 (mv 28 3) (oN 5 (ln 29 28) (oN 6 (cl 30 Jt [29]) (.one 7 true [6,3] (xo 31 (.append 1 1 [(.int .u8 0)] (.t 27) (.t 30))) (oN 8 (mv 32 3) (.one 9 true [7,6,3] (xo 33 (.append 1 1 [(.int .u8 0)] (.t 31) (.t 32))) (oN 10 (mv 2 33) .done))))))))))
def aba (Jt:Nat):List AO:=aoO (yL Jt)
instance (Jt:Nat):RG [] aaZ (yL Jt) (aba Jt) abT 11 (fun _=>true):=⟨rfl,by kernel_rfl,by kernel_rfl⟩
def aaC (ajZ Jt:Nat):AC:=YN [1] (.reg [xo 1 (.box true 4 (.t 0)),xo 2 (.mknil 1)]) (YN [1,3] (.reg [xo 5 (.bslice 0 1 false [(.int .u8 0)] []),fa 6 1 1,ld 7 1 6,xo 8 (.append 1 1 [(.int .u8 0)] (.t 5) (.t 7)),mv 3 8]) (YN [1,3] (YN [1,3,4] (.reg [mc 4 (V.int 0)]) (.block 0 (aeD [1,3,4] (YN [1,3,4] (YN [1,3,4,13] (.reg [mv 9 4,fa 10 3 1,ld 11 1 10,ln 12 11,bn 13 .lss 9 12]) (.cond (.t 13) .skip (.exit 0))) (YN [1,3,4] (.block 1 (.reg [mv 16 3,fa 17 3 1,ld 18 1 17,mv 19 4,ia 20 4 18 19,xo 21 (.load true 4 (.t 20)),cl 22 ajZ [21],xo 23 (.append 1 1 [(.int .u8 0)] (.t 16) (.t 22)),mv 3 23])) (.reg [mv 14 4,bc 15 .add 14 (V.int 1),mv 4 15])))))) (YN [2] (arf [] aaZ (yL Jt) (aba Jt) abT) .ret))) def Z9:List Kk:=[.tmp 2]
def wU (Γ:Env) (f:Nat):Prop:=∀ (x:Qn) (hx:x.siz < 2 ^ 35),EvC Γ f [x.v] (.sl 1 (JT x.pB))
attribute [local go_sem] zb Qn.v_eq VL Yh in
theorem aiz {Γ:Env} {f Jt:Nat} (h:Has Γ.P f 34 (aaC f Jt) Z9) (z0:qY Γ Jt):wU Γ f:=by
 suffices H:∀ (kk:Nat),∀ (x:Qn) (hx:x.siz < 2 ^ 35),x.siz < kk→EvC Γ f [x.v] (.sl 1 (JT x.pB)) from fun x hx=>H _ x hx (kJ _)
 intro kk;induction kk with
 | zero=>intros;rename_i hk;exact absurd hk (kI _)
 | succ kk ih =>
 intro x hx hk
 refine Ql h zsi zcl fun C hC hm=>?_
 subst hC
 unfold aaC
 obtain ⟨t,b,n,es⟩:=x
 simp only [Qn.v_eq]
 have hss:(Qn.mk t b n es).siz = 1 + b.length + jP es:=by rw [Qn.siz]
 have hle:=yH es
 have hu:=jo
 have htb:=Kl b
 (have zx:=htb);refine zgo ?_;repeat' first|exact zt|apply zan|intro hc
 refine Qs (ι:=Nat) (fun k=>k≤es.length) (fun k=>Yh [(1,.ptr 0 0),(3,.hd 1 0 (b++pL (es.take k)).length),(4,V.int k)] [(0,.box true [V.int t,.sl 1 (JT b),V.bool n,.sl 4 (es.map Qn.v)]),(1,.buf true 1 (JT (b++pL (es.take k))))] 2) (fun k=>es.length - k) 0 (zA _) (Qf [(1,5000)]) (Qo [(1,5000)] (by simp only [go_sem,zwl,JT,zb,List.take_zero,pL,zW]<;>exact zcc) (by simp only [go_sem,zwl,JT,List.take_zero,pL,zW]<;>exact zcc) (by simp [Qf]) (by simp;omega) (by omega)) fun k hk K' hL=>?_
 have hab:=alW es k
 have hll:(b++pL (es.take k)).length = b.length + (pL (es.take k)).length:=zn
 rcases hd:es.drop k with _|⟨y,r⟩
 ·have hkl:=Qr hd
  have e1:decide ((k:Int) < (((es.map Qn.v).length:Nat):Int)) = false:=by simp;omega
  rw [zi hkl] at *
  have hlg:=(z0 (b++pL es).length (by omega)).b
  have hl9:=ak0 (b++pL es).length
  have hpb:(Qn.mk t b n es).pB = u8i t :: (adf (b++pL es).length++(b++pL es)):=by rw [Qn.pB]
  rw [hpb]
  generalize b++pL es = a at *
  have hta:=Kl a
  have htl:=Kl (adf a.length)
  have hT1:∀ v:V,List.take (1 + (adf a.length).length) (v :: JT (adf a.length)) = v :: JT (adf a.length):=fun v=>zi (by simp [Nat.add_comm])
  (have zx:=za e1 (za hu (za hta (za htl hT1))));refine zgo ?_;repeat' first|exact zt|apply zan|intro hc
  all_goals (refine Qi _ rfl ?_;simp only [go_sem,zZ];rw [zi (by simp;omega)];simp [JT])
 ·obtain ⟨hk',hget,hr⟩:=Qk hd
  have hw:=Qg (k:=k) (by omega)
  have e1:decide ((k:Int) < (((es.map Qn.v).length:Nat):Int)) = true:=by simp;omega
  have hys:=wb hget
  have htk:=anp hget
  have hyl:=akP y
  obtain ⟨yt,yb,yn,ye⟩:=y
  have hi:=(ih (.mk yt yb yn ye) (by omega) (by omega)).b
  rw [Qn.v_eq] at hi
  generalize (Qn.mk yt yb yn ye).pB = p at *
  have hnx:b++pL (es.take (k + 1)) = (b++pL (es.take k))++p:=by rw [htk,ko]
  generalize hA:b++pL (es.take k) = a at *
  have hta:=Kl a
  (have zx:=za e1 (za hw (za hget hta)));refine zgo ?_;repeat' first|exact zt|apply zan|intro hc
  all_goals exact hL _ (k + 1) (Qf [(1,12002)]) hk' (by omega) (Qo [(1,12002)] (by simp only [go_sem,zwl,hnx,zn]<;>exact zcc) (by simp only [go_sem,zwl,hnx,JT,kc]<;>exact zcc) (by simp [Qf]) (by simp;omega) (by omega))
section
variable {C:Ctx} {nt:Nat} {s:St} {K:St→Prop} {E:Nat→St→Prop} {R:St→Prop}
theorem V7 {ks:List Nat} {x:AC} {ι:Type} (good:ι→Prop) (inv:ι→St) (msr:ι→Nat) (i0:ι) (h0:good i0) (hw:Cl C.m s (inv i0))
  (h:∀ i,good i→∀ K':St→Prop,(∀ s' i',good i'→msr i' < msr i→Cl C.m s' (inv i')→K' s')→AWp C nt x (inv i) K' E R):AWp C nt (aeD ks x) s K E R :=
 aoL good inv msr ⟨i0,h0,hw⟩ fun i hi=>h i hi _ fun _ i' h1 h2 h3=>⟨i',h1,h2,h3⟩
end
def aue (l:List Qn) (k:Nat):St:=stL [(0,.sl 4 (l.map Qn.v)),(3,.hd 0 0 k),(4,V.int k)] [.buf true 4 ((l.take k).map Qn.v)]
theorem w5 {o:Nat→Option Ob} {br:List Nat} {B:Option (List Nat)} {ys zs:List V} (h:qS o br B ys zs):∀ l:List Qn,qS o br B (l.map Qn.v++ys) (l.map Qn.v++zs)
 | []=>h
 | x :: r=>⟨by obtain ⟨t,b,n,es⟩:=x;rw [Qn.v_eq];exact Qe _ _ _ _ (by simp [V.cells,Qd,V.closed]),w5 h r⟩
theorem aiL {o:Nat→Option Ob} {br:List Nat} {n:Nat} {t:Int} {b:List UInt8} {q:Bool} {es:List V} (h:o n = some (.buf true 1 (JT b))) (hn:n ∉ br) :
  Qu o br none [V.int t,.hd n 0 (JT b).length,V.bool q,.sl 4 es] [V.int t,.sl 1 (JT b),V.bool q,.sl 4 es]:=by
 refine ⟨by simp [conv,V.int],?_,by simp [conv,V.bool],by simp [conv],trivial⟩
 simp only [conv]
 exact ⟨trivial,hn,.inl ⟨true,_,h,by rw [zZ,zi (zm _)]⟩⟩
theorem jn:∀ l:List Qn,aaB (l.map Qn.v)
 | []=>trivial
 | x :: r=>⟨by obtain ⟨t,b,n,es⟩:=x;rw [Qn.v_eq];simp [V.cells,Qd,V.closed],jn r⟩
def j5 (afz:Nat):AC:=YN [0] (.reg [xo 2 (.mknil 4)]) (YN [0,3] (.reg [xo 3 (.mknil 4)]) (YN [3] (YN [0,3,4] (.reg [mc 4 (V.int 0)]) (.block 0 (aeD [0,3,4] (YN [0,3,4] (YN [0,3,4,9] (.reg [mv 6 4,mv 7 0,ln 8 7,bn 9 .lss 6 8]) (.cond (.t 9) .skip (.exit 0))) (YN [0,3,4] (.block 1 (YN [0,3,4,5] (.reg [mv 12 0,mv 13 4,ia 14 4 12 13,xo 15 (.load true 4 (.t 14)),xo 5 (.alloc [.val vi0,.nil 1,.val (.bool false),.nil 4]),xs 4 5 15]) (YN [0,3,4,5] (.reg [xo 16 (.bslice 0 1 false [(.int .u8 0)] []),fa 17 1 5,ld 18 1 17,xo 19 (.append 1 1 [(.int .u8 0)] (.t 16) (.t 18)),fa 20 1 5,xs 1 20 19]) (YN [0,3,4,5] (.reg [fa 21 3 5,ld 22 1 21,cl 23 afz [22],fa 24 3 5,xs 1 24 23]) (.reg [mv 25 3,xo 26 (.load true 4 (.t 5)),xo 27 (.obslice 1 4 true [vi0,vn0,(.bool false),vn0] [(0,(.t 26))]),xo 28 (.append 4 64 [vi0,vn0,(.bool false),vn0] (.t 25) (.t 27)),mv 3 28]))))) (.reg [mv 10 4,bc 11 .add 10 (V.int 1),mv 4 11])))))) (YN [2] (.reg [mv 29 3,mv 2 29]) .ret))) def ba:List Kk:=[.tmp 2]
def q9 (Γ:Env) (f:Nat):Prop:=∀ (l:List Qn) (hx:jP l < 2 ^ 33),EvC Γ f [.sl 4 (l.map Qn.v)] (.sl 4 (l.map Qn.v))
attribute [local go_sem] Qn.v_eq VL in
theorem aeW {Γ:Env} {f:Nat} (h:Has Γ.P f 30 (j5 f) ba) :q9 Γ f:=by
 suffices H:∀ (kk:Nat),∀ (l:List Qn) (hx:jP l < 2 ^ 33),jP l < kk→EvC Γ f [.sl 4 (l.map Qn.v)] (.sl 4 (l.map Qn.v)) from fun l hx=>H _ l hx (kJ _)
 intro kk;induction kk with
 | zero=>intros;rename_i hk;exact absurd hk (kI _)
 | succ kk ih =>
 intro l hx hk
 refine Ql h zsi zcl fun C hC hm=>?_
 subst hC
 unfold j5
 have hle:=yH l
 refine zgo ?_;repeat' first|exact zt|apply zan|intro hc
 refine V7 (ι:=Nat) (fun k=>k≤l.length) (fun k=>aue l k) (fun k=>l.length - k) 0 (zA _) ?_ fun k hk K' hL=>?_
 ·refine Vn [1000] none (fun p hp=>?_) ?_ (by simp) (by rw [hm];rfl)
  ·simp only [zo,zl,or_false] at hp
   rcases hp with rfl|rfl|rfl
   ·exact Qb _ _ _ (.sl 4 _) trivial
   ·show conv _ _ _ (.hd 1000 0 0) (.hd 0 0 0)
    simp [conv]
   ·exact Qb _ _ _ (V.int 0) trivial
  ·exact ⟨⟨_,rfl,fun h=>h,rfl,rfl⟩,trivial⟩
 have hlm:(l.map Qn.v).length = l.length:=zb _
 rcases hd:l.drop k with _|⟨y,r⟩
 ·have hkl:=Qr hd
  have e1:decide ((k:Int) < ((l.length:Nat):Int)) = false:=by simp;omega
  obtain rfl:k = l.length:=by omega
  simp only [aue,stL,zN]
  (have zx:=za e1 hlm);refine zgo ?_;repeat' first|exact zt|apply zan|intro hc
  all_goals
   refine Qi _ rfl ?_
   show conv _ _ _ (.hd 0 0 l.length) (.sl 4 _)
   simp only [conv]
   exact ⟨trivial,by simp,.inl ⟨true,_,rfl,by rw [zZ,zi (by simp)]⟩⟩
 ·obtain ⟨hk',hget,hr⟩:=Qk hd
  have hw:=Qg (k:=k) (by omega)
  have e1:decide ((k:Int) < ((l.length:Nat):Int)) = true:=by simp;omega
  have hys:=wb hget
  obtain ⟨yt,yb,yn,ye⟩:=y
  have hss:(Qn.mk yt yb yn ye).siz = 1 + yb.length + jP ye:=by rw [Qn.siz]
  have hi:=(ih ye (by omega) (by omega)).b
  have htb:=Kl yb
  simp only [aue,stL]
  (have zx:=za e1 (za hlm (za hw (za hget htb))));refine zgo ?_;repeat' first|exact zt|apply zan|intro hc
  all_goals
   refine hL _ (k + 1) hk' (by omega) (Vn [24001] none (fun p hp=>?_) ?_ (by simp) (by rw [hm];rfl))
   ·simp only [zo,zl,or_false] at hp
    rcases hp with rfl|rfl|rfl
    ·exact Qb _ _ _ (.sl 4 _) trivial
    ·show conv _ _ _ (.hd 24001 0 (k + 1)) (.hd 0 0 (k + 1))
     simp [conv]
    ·exact Qb _ _ _ (V.int (k + 1:Nat)) trivial
   ·refine ⟨⟨_,rfl,fun h=>h,rfl,?_,jn _⟩,trivial⟩
    have hA:List.take k ((l.take k).map Qn.v) = (l.take k).map Qn.v:=zi (by rw [zb,zV];omega)
    have hB:l.take (k + 1) = l.take k++[.mk yt yb yn ye]:=by rw [zJ,hget];rfl
    rw [hB,kc]
    show qS _ _ _ (List.take k ((l.take k).map Qn.v)++[V.agg [V.int yt,.hd 13001 0 (JT yb).length,V.bool yn,.sl 4 (ye.map Qn.v)]]) _
    rw [hA]
    refine w5 ?_ _
    show qS _ _ _ [V.agg [V.int yt,.hd 13001 0 (JT yb).length,V.bool yn,.sl 4 (ye.map Qn.v)]] [Qn.v (.mk yt yb yn ye)]
    rw [Qn.v_eq]
    exact ⟨aiL rfl (by decide),trivial⟩
def adZ (l:List Qn):Qn:=.mk 48 [] true l
def yj (s:List UInt8):Qn:=.mk 12 s false []
def apa (b:Bool):Qn:=.mk 1 [if b then 255 else 0] false []
def jE:=qd Proofs.Tryz.f130 []
def qu (Γ:Env) (f:Nat):Prop:=∀ (l:List Qn) (hx:jP l < 2 ^ 33),EvC Γ f [.sl 4 (l.map Qn.v)] ((adZ l).v)
theorem ahb {Γ:Env} {f:Nat} (h:Has Γ.P f 6 jE.1.1.ac jE.1.2) (z0:q9 Γ 179):qu Γ f:=by
 intro l hx
 refine Ql h zsi (Qn.v_closed _) fun C hC hm=>?_
 subst hC
 simp only [jE,qd,DC.ac]
 simp only [adZ,Qn.v_eq]
 exact zg
def jD:=qd Proofs.Tryz.f129 []
def xH (Γ:Env) (f:Nat):Prop:=∀ (s:List UInt8) (hs:s.length < 2 ^ 33),EvC Γ f [V.str s] ((yj s).v)
theorem aha {Γ:Env} {f:Nat} (h:Has Γ.P f 6 jD.1.1.ac jD.1.2) :xH Γ f:=by
 intro s hs
 refine Ql h zsi (Qn.v_closed _) fun C hC hm=>?_
 subst hC
 simp only [jD,qd,DC.ac]
 simp only [yj,Qn.v_eq]
 have htk:=Kl s
 refine zgo ?_;repeat' first|exact zt|apply zan|intro hc
 all_goals first|exact zr|(refine Qi _ rfl ?_;simp only [go_sem,htk];done)
def jF:=qd Proofs.Tryz.f133 []
def xI (Γ:Env) (f:Nat):Prop:=∀ (b:Bool),EvC Γ f [V.bool b] ((apa b).v)
theorem ahc {Γ:Env} {f:Nat} (h:Has Γ.P f 8 jF.1.1.ac jF.1.2) :xI Γ f:=by
 intro b
 refine Ql h zsi (Qn.v_closed _) fun C hC hm=>?_
 subst hC
 simp only [jF,qd,DC.ac]
 simp only [apa,Qn.v_eq]
 cases b
 all_goals refine zgo ?_;repeat' first|exact zt|apply zan|intro hc
 all_goals first|exact zr|(refine Qi _ rfl ?_;simp only [go_sem];rfl)
def amU (x:Qn):V:=if x.fB = false then .tup [.sl 1 [],V.int 1] else if x.dep > 16 then .tup [.sl 1 [],V.int 3] else if x.pB.length > 4096 then .tup [.sl 1 [],V.int 3] else .tup [.sl 1 (JT x.pB),V.int 0]
theorem aax (x:Qn):(amU x).closed:=by
 unfold amU
 repeat' split
 all_goals simp only [V.closed,Qd,and_self]
def Ku:=qd Proofs.Tryz.f94 []
def ja (Γ:Env) (f:Nat):Prop:=∀ (x:Qn) (hx:x.siz < 2 ^ 35),EvC Γ f [x.v] (amU x)
theorem aeX {Γ:Env} {f:Nat} (h:Has Γ.P f 17 Ku.1.1.ac Ku.1.2) (z0:qZ Γ 126) (z1:yc Γ 127) (z2:wU Γ 128):ja Γ f:=by
 intro x hx
 refine Ql h zsi (aax _) fun C hC hm=>?_
 subst hC
 simp only [Ku,qd,DC.ac]
 have hf:=(z0 x (by omega)).b
 have hd:=(z1 x (by omega)).b
 have hp:=(z2 x hx).b
 have he:amU x = if x.fB = false then .tup [.sl 1 [],V.int 1] else if x.dep > 16 then .tup [.sl 1 [],V.int 3] else if x.pB.length > 4096 then .tup [.sl 1 [],V.int 3] else .tup [.sl 1 (JT x.pB),V.int 0]:=rfl
 rw [he]
 generalize x.pB = p at *
 generalize x.dep = d at *
 generalize x.fB = q at *
 obtain ⟨t,b,n,es⟩:=x
 rw [Qn.v_eq] at *
 rcases q with _|_
 ·rw [if_pos rfl]
  exact zg
 ·rw [if_neg (by decide)]
  by_cases h2:d > 16
  ·rw [if_pos h2]
   have e2:decide ((d:Int) > 16) = true:=by simp;omega
   (have zx:=e2);exact zg
  ·rw [if_neg h2]
   have e2:decide ((d:Int) > 16) = false:=by simp;omega
   have hpl:((JT p).length:Int) = (p.length:Int):=by rw [X7]
   by_cases h3:p.length > 4096
   ·rw [if_pos h3]
    have e3:decide ((p.length:Int) > 4096) = true:=by simp;omega
    (have zx:=za e2 (za hpl e3));exact zg
   ·rw [if_neg h3]
    have e3:decide ((p.length:Int) > 4096) = false:=by simp;omega
    (have zx:=za e2 (za hpl e3));exact zg
theorem auF {n:Int} {k:Nat} (hk:k < 8):IntKind.u8.wrap ((IntKind.u64.wrap n).fdiv (2 ^ ((56:Int) - 8 * (k:Int)).toNat)) = ((u8i (hiI n (7 - k))).toNat:Int):=by
 have e:IntKind.u64.wrap n = n % 18446744073709551616:=by
  have e1:IntKind.u64.bits = 64:=rfl
  have e2:IntKind.u64.signed = false:=rfl
  simp only [IntKind.wrap,e1,e2,zY];simp
 rw [jo,acd,acd,e]
 have hq:k = 0∨k = 1∨k = 2∨k = 3∨k = 4∨k = 5∨k = 6∨k = 7:=by omega
 rcases hq with rfl|rfl|rfl|rfl|rfl|rfl|rfl|rfl
 all_goals
  simp only [Nat.reduceSub,hiI,zS _ (show (0:Int)≤256 by decide)]
  rw [zS _ (by decide)]
  simp
  try omega
theorem am4 (n:Int):∀ (m k:Nat),k < m→(tbI n m)[k]? = some (u8i (hiI n (m - 1 - k)))
 | m + 1,0,_=>rfl
 | m + 1,k + 1,h=>by
   rw [tbI,List.getElem?_cons_succ,am4 n m k (by omega)]
   congr 3;omega
def auf (l:List Qn) (k:Nat):St:=stL [(3,.hd 0 0 k),(6,.sl 4 (l.map Qn.v)),(7,V.int (l.map Qn.v).length),(8,V.int k)] [.buf true 4 ((l.take k).map Qn.v)]
def aov (n:Int) (k:Nat):St:=Yh [(0,V.int n),(2,.ptr 0 0),(3,.hd 1 0 k),(4,V.int (56 - 8 * (k:Int)))] [(0,.box true [V.int 0,.hd 2 0 0,V.bool false,.hd 3 0 0]),(1,.buf true 1 (JT ((tbI n 8).take k))),(2,.buf true 1 []),(3,.buf true 4 [])] 4
def aou (n:Int) (j:Nat):St:=Yh [(2,.ptr 0 0),(3,.hd 1 j (8 - j))] [(0,.box true [V.int 0,.hd 2 0 0,V.bool false,.hd 3 0 0]),(1,.buf true 1 (JT (tbI n 8))),(2,.buf true 1 []),(3,.buf true 4 [])] 4
def abQ:=qd Proofs.Tryz.f220 []
def ada (Γ:Env) (f:Nat):Prop:=∀ (n:Int) (h0:-9223372036854775808≤n) (h1:n < 9223372036854775808),EvC Γ f [V.int n] ((Wn n).v)
attribute [local go_sem] Yh in
theorem aml {Γ:Env} {f:Nat} (h:Has Γ.P f 48 abQ.1.1.ac abQ.1.2) :ada Γ f:=by
 intro n h0 h1
 refine Ql h zsi (Qn.v_closed _) fun C hC hm=>?_
 subst hC
 simp only [abQ,qd,DC.ac]
 simp only [Wn,Qn.v_eq]
 have h56:(56:Int) - 8 * ((0:Nat):Int) = 56:=by decide
 refine zgo ?_;repeat' first|exact zt|apply zan|intro hc
 refine Qs (ι:=Nat) (fun k=>k≤8) (fun k=>aov n k) (fun k=>8 - k) 0 (zA _) (Qf [(1,1000),(3,4)]) (Qo [(1,1000),(3,4)] (by simp only [go_sem,zwl,aov,h56]<;>exact zcc) (by simp only [go_sem,zwl,aov,JT,List.take_zero,zw]<;>exact zcc) (by simp [aov,Qf]) (by simp [aov];omega) (by omega)) fun k hk K' hL=>?_
 by_cases h8:k = 8
 ·subst h8
  have e1:decide ((56 - 8 * ((8:Nat):Int))≥0) = false:=by decide
  have e9:(tbI n 8).take 8 = tbI n 8:=zi (by rw [agB];omega)
  clear hL
  simp only [aov,e9]
  (have zx:=e1);refine zgo ?_;repeat' first|exact zt|apply zan|intro hc
  refine Qs (ι:=Nat) (fun j=>j≤7∧ahS ((tbI n 8).drop j) = apR n) (fun j=>aou n j) (fun j=>8 - j) 0 ⟨by omega,apf h0 h1⟩ (Qf []) (Qo [] (by simp only [go_sem,zwl,aou]<;>exact zcc) (by simp only [go_sem,zwl,aou]<;>exact zcc) (by simp [aou,Qf]) (by simp [aou]) (by omega)) fun j hj K' hL=>?_
  obtain ⟨hj,ht⟩:=hj
  have hlen:=agB n 8
  rcases hd:(tbI n 8).drop j with _|⟨c,_|⟨d,r⟩⟩
  ·have:=congrArg List.length hd;rw [kV,hlen,List.length_nil] at this;omega
  ·have hl2:=congrArg List.length hd;rw [kV,hlen,List.length_singleton] at hl2
   obtain rfl:j = 7:=by omega
   rw [hd] at ht
   have e2:decide (((8 - 7:Nat):Int) > 1) = false:=by decide
   have hb:List.take 1 ((JT (tbI n 8)).drop 7) = JT (apR n):=by rw [← ht,JT,← List.map_drop,hd];rfl
   clear hL
   simp only [aou]
   (have zx:=e2);refine zgo ?_;repeat' first|exact zt|apply zan|intro hc
   all_goals first|(refine Qi _ rfl ?_;simp only [go_sem,hb];done)|(refine Qi _ rfl ?_;simp only [go_sem,hb];trace_state)
  ·have hl2:=congrArg List.length hd;rw [kV,hlen,List.length_cons,List.length_cons] at hl2
   have e2:decide (((8 - j:Nat):Int) > 1) = true:=by simp;omega
   have v0:(JT (tbI n 8))[j]? = some (V.sc (.int .u8 c.toNat)):=by
    have:=congrArg (fun l=>l[0]?) hd;simp only [Zi,Nat.add_zero,List.getElem?_cons_zero] at this
    rw [JT,zk,this];rfl
   have v1:(JT (tbI n 8))[j + 1]? = some (V.sc (.int .u8 d.toNat)):=by
    have:=congrArg (fun l=>l[1]?) hd;simp only [Zi,List.getElem?_cons_succ,List.getElem?_cons_zero] at this
    rw [JT,zk,this];rfl
   have hsub:8 - j - 1 = 8 - (j + 1):=by omega
   have hd1:(tbI n 8).drop (j + 1) = d :: r:=by rw [← Zf,hd];rfl
   have hbt:c :: d :: r = apR n→List.take (8 - j) ((JT (tbI n 8)).drop j) = JT (apR n):=fun h=>by
    rw [zi (by simp [JT,hlen]),JT,← List.map_drop,hd,h]
   rw [hd,ahS,as0] at ht
   have hs1:(1:Nat)≤8 - j:=by omega
   simp only [aou]
   rcases q1:((c.toNat:Int) == 0) with _|_<;>rcases q2:decide ((d.toNat:Int) < 128) with _|_<;>rcases q3:((c.toNat:Int) == 255) with _|_
   all_goals
    have hge:=agY q2
    rw [q1,q2,q3,hge] at ht
    simp only [Zd,ku,Zx,Zh,kY,Bool.or_false,Bool.and_self,Bool.or_self,Bool.true_eq_false,zD,if_true,if_false] at hge ht
   all_goals
    (have zx:=za e2 (za v0 (za v1 (za q1 (za q2 (za q3 (za hge hs1)))))));refine zgo ?_;repeat' first|exact zt|apply zan|intro hc
   all_goals first|(have hb:=hbt ht;refine Qi _ rfl ?_;simp only [go_sem,hb];done)|exact hL _ (j + 1) (Qf []) ⟨by omega,by rw [hd1];exact ht⟩ (by omega) (Qo [] (by simp only [go_sem,zwl,aou,hsub]<;>exact zcc) (by simp only [go_sem,zwl,aou]<;>exact zcc) (by simp [aou,Qf]) (by simp [aou]) (by omega))
 have hs:=auF (n:=n) (k:=k) (by omega)
 have hw:IntKind.i64.wrap ((56 - 8 * (k:Int)) - 8) = 56 - 8 * ((k + 1:Nat):Int):=by rw [Q9 (by omega) (by omega)];omega
 have e1:decide ((56 - 8 * (k:Int))≥0) = true:=by simp;omega
 have s1:(0:Int)≤56 - 8 * (k:Int):=by omega
 have s2:(56 - 8 * (k:Int)).toNat≤64:=by omega
 have hnx:JT ((tbI n 8).take (k + 1)) = JT ((tbI n 8).take k)++[V.sc (.int .u8 (u8i (hiI n (7 - k))).toNat)]:=by
  rw [zJ,am4 n 8 k (by omega)]
  simp [JT]
 have hl:(JT ((tbI n 8).take k)).length = k:=by simp [JT,agB];omega
 have htk:List.take k (JT ((tbI n 8).take k)) = JT ((tbI n 8).take k):=zi (by omega)
 simp only [aov]
 generalize (56 - 8 * (k:Int)) = i at *
 generalize JT ((tbI n 8).take k) = out at *
 (have zx:=za e1 (za s1 (za s2 (za hs (za hw (za hl htk))))));refine zgo ?_;repeat' first|exact zt|apply zan|intro hc
 all_goals exact hL _ (k + 1) (Qf [(1,9004)]) (by omega) (by omega) (Qo [(1,9004)] (by simp only [go_sem,zwl,aov]<;>exact zcc) (by simp only [go_sem,zwl,aov,hnx]<;>exact zcc) (by simp [aov,Qf]) (by simp [aov];omega) (by omega))
def vE:=qd Proofs.Tryz.f221 []
def aaR (Γ:Env) (f:Nat):Prop:=∀ (s:List UInt8) (hs:s.length < 2 ^ 33),EvC Γ f [V.str s] ((yj s).v)
theorem aj7 {Γ:Env} {f:Nat} (h:Has Γ.P f 6 vE.1.1.ac vE.1.2) :aaR Γ f:=by
 intro s hs
 refine Ql h zsi (Qn.v_closed _) fun C hC hm=>?_
 subst hC
 simp only [vE,qd,DC.ac]
 simp only [yj,Qn.v_eq]
 have htk:=Kl s
 refine zgo ?_;repeat' first|exact zt|apply zan|intro hc
 all_goals first|exact zr|(refine Qi _ rfl ?_;simp only [go_sem,htk];done)
def qn:=qd Proofs.Tryz.f244 []
def yh (Γ:Env) (f:Nat):Prop:=∀ (b:List UInt8) (hb:b.length < 2 ^ 33),EvW Γ f [.sl 1 (JT b)] 1 (JT b)
theorem afI {Γ:Env} {f:Nat} (h:Has Γ.P f 8 qn.1.1.ac qn.1.2) :yh Γ f:=by
 intro b hb
 refine qO h (by simp) (by first|exact aih _|exact ahT _|(intro x hx;obtain ⟨c,_,rfl⟩:=kO.1 hx;trivial)) fun C hC hm=>?_
 subst hC
 simp only [qn,qd,DC.ac]
 have hbl:=X7 b
 rcases b with _|⟨x,r⟩
 ·simp only [JT,zw]
  repeat' (first|(refine zsk ?_;intro K' hK)|refine zsp ?_|(refine zsc ?_ ?_<;>intro hc<;>first|exact znh|try simp only [znz] at hc)|simp (maxSteps:=1000000) only [go_sem]|(refine hK _ ?_;clear hK K')|apply zan|exact zsq|fail)
  intro t
  rcases t with _|_
  ·repeat' (first|(refine zsk ?_;intro K' hK)|refine zsp ?_|(refine zsc ?_ ?_<;>intro hc<;>first|exact znh|try simp only [znz] at hc)|simp (maxSteps:=1000000) only [go_sem]|(refine hK _ ?_;clear hK K')|apply zan|exact zsq|fail)
   all_goals (refine abL (xs:=[]) _ _ rfl ?_ ?_<;>first|rfl|(simp;done))
  ·repeat' (first|(refine zsk ?_;intro K' hK)|refine zsp ?_|(refine zsc ?_ ?_<;>intro hc<;>first|exact znh|try simp only [znz] at hc)|simp (maxSteps:=1000000) only [go_sem]|(refine hK _ ?_;clear hK K')|apply zan|exact zsq|fail)
   all_goals (refine abL (xs:=[]) _ _ rfl ?_ ?_<;>first|rfl|(simp;done))
 ·simp only [JT,zy] at hbl ⊢
  repeat' (first|(refine zsk ?_;intro K' hK)|refine zsp ?_|(refine zsc ?_ ?_<;>intro hc<;>first|exact znh|try simp only [znz] at hc)|simp (maxSteps:=1000000) only [go_sem]|(refine hK _ ?_;clear hK K')|apply zan|exact zsq|fail)
  all_goals first
   | (simp only [zb,List.length_cons] at hb hbl ⊢;omega)
   | (intro y hy;obtain ⟨c,_,rfl⟩:=kO.1 hy;rfl)
   | (refine abL (xs:=V.sc (.int .u8 x.toNat) :: List.map (fun c:UInt8=>V.sc (.int .u8 c.toNat)) r) _ _ rfl ?_ ?_<;>first|rfl|(simp;done))
def v6 (Ju Yq:Nat):List AO:=[fa 12 1 5,ld 13 1 12,cl 14 Ju [13],fa 15 3 5,ld 16 1 15,cl 17 Yq [16],fa 18 1 5,xs 1 18 14,fa 19 3 5,xs 1 19 17]
def aaa:List (List Nat):=[[],[0],[1],[],[3],[4,2],[0,1,2,3,4],[6,2,5,0,1,2,3,4],[0,1,2,3,4,5,6,7],[8,5,7,0,1,2,3,4,5,6,7]]
def vY:OT:=.one 0 (.one 3 (.or 1 (.one 2 (.one 4 (.one 5 (.one 6 (.one 7 (.one 8 (.one 9 .done))))))) (.or 4 (.one 1 (.one 2 (.one 5 (.one 6 (.one 7 (.one 8 (.one 9 .done))))))) .done)))
@[go_sem] def vZ (Ju Yq:Nat):OP:=oN 0 (fa 12 1 5) (oN 3 (fa 15 3 5) (.or 1 true [] (ld 13 1 12) (oN 2 (cl 14 Ju [13]) (.one 4 true [] (ld 16 1 15) (oN 5 (cl 17 Yq [16]) (oN 6 (fa 18 1 5) (.one 7 true [2] (xs 1 18 14) (oN 8 (fa 19 3 5) (.one 9 true [5] (xs 1 19 17) .done))))))) (.or 4 true [] (ld 16 1 15) (.one 1 true [] (ld 13 1 12) (oN 2 (cl 14 Ju [13]) (oN 5 (cl 17 Yq [16]) (oN 6 (fa 18 1 5) (.one 7 true [2] (xs 1 18 14) (oN 8 (fa 19 3 5) (.one 9 true [5] (xs 1 19 17) .done))))))) .done)))
instance (Ju Yq:Nat):RG [1,4] vY (vZ Ju Yq) (v6 Ju Yq) aaa 10 (fun _=>false):=⟨rfl,by kernel_rfl,by kernel_rfl⟩
def wC (Ju Yq:Nat):AC:=YN [0] (.reg [xo 2 (.mknil 4)]) (YN [0,3] (.reg [xo 3 (.mknil 4)]) (YN [3] (YN [3,6,7,8] (.reg [mv 6 0,ln 7 6,mc 8 (V.int 0)]) (.block 0 (aeD [3,6,7,8] (YN [3,6,7,8,9] (.reg [bn 9 .lss 8 7]) (YN [3,6,7,8] (.cond (.t 9) .skip (.exit 0)) (YN [3,6,7,8] (.block 1 (YN [3,5,6,7,8] (.reg [ia 10 4 6 8,xo 11 (.load true 4 (.t 10)),xo 5 (.alloc [.val vi0,.nil 1,.val (.bool false),.nil 4]),xs 4 5 11]) (YN [3,5,6,7,8] (arf [1,4] vY (vZ Ju Yq) (v6 Ju Yq) aaa) (.reg [mv 20 3,xo 21 (.load true 4 (.t 5)),xo 22 (.obslice 1 4 true [vi0,vn0,(.bool false),vn0] [(0,(.t 21))]),xo 23 (.append 4 64 [vi0,vn0,(.bool false),vn0] (.t 20) (.t 22)),mv 3 23])))) (.reg [bc 24 .add 8 (V.int 1),mv 8 24]))))))) (YN [2] (.reg [mv 25 3,mv 2 25]) .ret))) def bf:List Kk:=[.tmp 2]
def xN (Γ:Env) (f:Nat):Prop:=∀ (l:List Qn) (hx:jP l < 2 ^ 33),EvC Γ f [.sl 4 (l.map Qn.v)] (.sl 4 (l.map Qn.v))
attribute [local go_sem] Qn.v_eq VL in
theorem ahh {Γ:Env} {f Ju:Nat} (h:Has Γ.P f 26 (wC Ju f) bf) (z0:yh Γ Ju):xN Γ f:=by
 suffices H:∀ (kk:Nat),∀ (l:List Qn) (hx:jP l < 2 ^ 33),jP l < kk→EvC Γ f [.sl 4 (l.map Qn.v)] (.sl 4 (l.map Qn.v)) from fun l hx=>H _ l hx (kJ _)
 intro kk;induction kk with
 | zero=>intros;rename_i hk;exact absurd hk (kI _)
 | succ kk ih =>
 intro l hx hk
 refine Ql h zsi zcl fun C hC hm=>?_
 subst hC
 unfold wC
 have hle:=yH l
 refine zgo ?_;repeat' first|exact zt|apply zan|intro hc
 refine V7 (ι:=Nat) (fun k=>k≤l.length) (fun k=>auf l k) (fun k=>l.length - k) 0 (zA _) ?_ fun k hk K' hL=>?_
 ·refine Vn [1000] none (fun p hp=>?_) ?_ (by simp) (by rw [hm];rfl)
  ·simp only [zo,zl,or_false] at hp
   rcases hp with rfl|rfl|rfl|rfl
   ·show conv _ _ _ (.hd 1000 0 0) (.hd 0 0 0)
    simp [conv]
   ·exact Qb _ _ _ (.sl 4 _) trivial
   ·exact Qb _ _ _ (V.int _) trivial
   ·exact Qb _ _ _ (V.int 0) trivial
  ·exact ⟨⟨_,rfl,fun h=>h,rfl,rfl⟩,trivial⟩
 have hlm:(l.map Qn.v).length = l.length:=zb _
 rcases hd:l.drop k with _|⟨y,r⟩
 ·have hkl:=Qr hd
  have e1:decide ((k:Int) < ((l.length:Nat):Int)) = false:=by simp;omega
  obtain rfl:k = l.length:=by omega
  simp only [auf,stL,zN]
  (have zx:=za e1 hlm);refine zgo ?_;repeat' first|exact zt|apply zan|intro hc
  all_goals
   refine Qi _ rfl ?_
   show conv _ _ _ (.hd 0 0 l.length) (.sl 4 _)
   simp only [conv]
   exact ⟨trivial,by simp,.inl ⟨true,_,rfl,by rw [zZ,zi (by simp)]⟩⟩
 ·obtain ⟨hk',hget,hr⟩:=Qk hd
  have hw:=Qg (k:=k) (by omega)
  have e1:decide ((k:Int) < ((l.length:Nat):Int)) = true:=by simp;omega
  have hys:=wb hget
  obtain ⟨yt,yb,yn,ye⟩:=y
  have hss:(Qn.mk yt yb yn ye).siz = 1 + yb.length + jP ye:=by rw [Qn.siz]
  have hi:=(ih ye (by omega) (by omega)).b
  have hcl:=z0 yb (by omega)
  have htb:=Kl yb
  simp only [auf,stL]
  (have zx:=za e1 (za hlm (za hw (za hget htb))));refine zgo ?_;repeat' first|exact zt|apply zan|intro hc
  all_goals
   refine hL _ (k + 1) hk' (by omega) (Vn [18001] none (fun p hp=>?_) ?_ (by simp) (by rw [hm];rfl))
   ·simp only [zo,zl,or_false] at hp
    rcases hp with rfl|rfl|rfl|rfl
    ·show conv _ _ _ (.hd 18001 0 (k + 1)) (.hd 0 0 (k + 1))
     simp [conv]
    ·exact Qb _ _ _ (.sl 4 _) trivial
    ·show conv _ _ _ (V.int l.length) (V.int (l.map Qn.v).length)
     rw [hlm];exact Qb _ _ _ (V.int _) trivial
    ·exact Qb _ _ _ (V.int (k + 1:Nat)) trivial
   ·refine ⟨⟨_,rfl,fun h=>h,rfl,?_,jn _⟩,trivial⟩
    have hA:List.take k ((l.take k).map Qn.v) = (l.take k).map Qn.v:=zi (by rw [zb,zV];omega)
    have hB:l.take (k + 1) = l.take k++[.mk yt yb yn ye]:=by rw [zJ,hget];rfl
    rw [hB,kc]
    show qS _ _ _ (List.take k ((l.take k).map Qn.v)++[V.agg [V.int yt,.hd 7001 0 (JT yb).length,V.bool yn,.sl 4 (ye.map Qn.v)]]) _
    rw [hA]
    refine w5 ?_ _
    show qS _ _ _ [V.agg [V.int yt,.hd 7001 0 (JT yb).length,V.bool yn,.sl 4 (ye.map Qn.v)]] [Qn.v (.mk yt yb yn ye)]
    rw [Qn.v_eq]
    exact ⟨aiL rfl (by decide),trivial⟩
def aeb:=qd Proofs.Tryz.f219 []
def afq (Γ:Env) (f:Nat):Prop:=∀ (l:List Qn) (hx:jP l < 2 ^ 33),EvC Γ f [.sl 4 (l.map Qn.v)] ((adZ l).v)
theorem aoh {Γ:Env} {f:Nat} (h:Has Γ.P f 6 aeb.1.1.ac aeb.1.2) (z0:xN Γ 236):afq Γ f:=by
 intro l hx
 refine Ql h zsi (Qn.v_closed _) fun C hC hm=>?_
 subst hC
 simp only [aeb,qd,DC.ac]
 simp only [adZ,Qn.v_eq]
 exact zg
def aei (h:Int) (c:UInt8):Int:=IntKind.u32.wrap (IntKind.u32.wrap ((BitVec.ofInt IntKind.u32.bits h ^^^ BitVec.ofInt IntKind.u32.bits (IntKind.u32.wrap (c.toNat:Int))).toNat:Nat) * 16777619)
def alJ:Int→List UInt8→Int
 | h,[]=>h
 | h,c :: r=>alJ (aei h c) r
def ace (b:List UInt8):Int:=IntKind.i64.wrap (alJ 2166136261 b)
def xh:=qd Proofs.Tryz.f56 []
def wS (Γ:Env) (f:Nat):Prop:=∀ (b:List UInt8) (hb:b.length < 2 ^ 60),EvN Γ f [.sl 1 (JT b)] (V.int (ace b))
theorem aix {Γ:Env} {f:Nat} (h:Has Γ.P f 21 xh.1.1.ac xh.1.2) :wS Γ f:=by
 intro b hb
 refine Qa h zsi zcl zcl fun C hC hm=>?_
 subst hC
 simp only [xh,qd,DC.ac]
 have hln:(JT b).length = b.length:=X7 b
 have hst:∀ h c,aei h c = IntKind.u32.wrap (IntKind.u32.wrap ((BitVec.ofInt IntKind.u32.bits h ^^^ BitVec.ofInt IntKind.u32.bits (IntKind.u32.wrap (c.toNat:Int))).toNat:Nat) * 16777619):=fun _ _=>rfl
 (have zx:=hln);refine zgo ?_;repeat' first|exact zt|apply zan|intro hc
 refine Jg (ι:=Nat×Int) (fun q=>q.1≤b.length∧alJ q.2 (b.drop q.1) = alJ 2166136261 b) (fun q=>[(3,.sc (.int .u32 q.2)),(4,V.int q.1)]) (fun q=>b.length - q.1) (0,2166136261) (by omega) ⟨zA _,rfl⟩ zol zlt zet fun q hq K' hL=>?_
 obtain ⟨k,h⟩:=q
 simp only at hq hL ⊢
 obtain ⟨hk,hinv⟩:=hq
 simp only [ovT,Yr,Nat.reduceEqDiff,reduceIte]
 rcases hd:b.drop k with _|⟨y,r⟩
 ·have hkl:=Qr hd
  have e1:decide ((k:Int) < ((b.length:Nat):Int)) = false:=by simp;omega
  rw [hd] at hinv
  have hs:ace b = IntKind.i64.wrap h:=by rw [ace,← hinv];rfl
  rw [hs]
  (have zx:=za hln e1);exact zg
 ·obtain ⟨hk',hget,hr⟩:=Qk hd
  have hw:=Qg (k:=k) (by omega)
  have e1:decide ((k:Int) < ((b.length:Nat):Int)) = true:=by simp;omega
  have hg2:(JT b)[k]? = some (.sc (.int .u8 y.toNat)):=by rw [zk,hget];rfl
  rw [hd] at hinv
  repeat' (first|(refine zsk ?_;intro K' hK)|refine zsp ?_|(refine zsc ?_ ?_<;>intro hc<;>first|exact znh|try simp only [znz] at hc)|simp (maxSteps:=1000000) only [go_sem,hln,e1,hw,Int.toNat_natCast,hg2,← hst]|(refine hK _ ?_;clear hK K')|apply zan|exact zsq|fail)
  all_goals exact hL _ (k + 1,aei h y) zet ⟨hk',by rw [hr,← hinv];rfl⟩ (by simp only;omega) zoe
theorem apQ (n:Int):(apR n).length≤10:=by
 have:∀ (k:Nat) (x:Int) (b:List UInt8),(adx k x b).length≤k + b.length:=by
  intro k
  induction k with
  | zero=>intro x b;rw [adx];omega
  | succ k ih =>
    intro x b
    rw [adx]
    split
    ·have:=ih (x.fdiv 256) (u8i x :: b);rw [List.length_cons] at this;omega
    ·omega
 have h:=this 9 (n.fdiv 256) [u8i n]
 rw [List.length_singleton] at h
 exact h
theorem XS (n:Int):(Wn n).siz≤11:=by have:=apQ n;rw [Wn,Qn.siz,jP];omega
def aaW (a b:Int):Qn:=adZ [Wn a,Wn b]
theorem ahQ (a b:Int):(aaW a b).siz≤30:=by
 have h1:=XS a
 have h2:=XS b
 rw [aaW,adZ,Qn.siz,jP,jP,jP,List.length_nil];omega
def xf:=qd Proofs.Tryz.f132 [⟨fun y=>!decide (y = 1000),[7],zoc 0 9⟩]
def wR (Γ:Env) (f:Nat):Prop:=∀ (a b:Int) (h0:-9223372036854775808≤a) (h1:a < 9223372036854775808) (h2:-9223372036854775808≤b) (h3:b < 9223372036854775808),EvC Γ f [.agg [V.int a,V.int b]] ((aaW a b).v)
theorem aiw {Γ:Env} {f:Nat} (h:Has Γ.P f 11 xf.1.1.ac xf.1.2) (z0:jM Γ 131) (z1:qu Γ 130):wR Γ f:=by
 intro a b h0 h1 h2 h3
 refine Ql h zsi (Qn.v_closed _) fun C hC hm=>?_
 subst hC
 simp only [xf,qd,DC.ac]
 have ia:=(z0 a h0 h1).b
 have ib:=(z0 b h2 h3).b
 have hsa:=XS a
 have hsb:=XS b
 have il:=z1 [Wn a,Wn b] (by rw [jP,jP,jP];omega)
 simp only [zy,zw,adZ,Qn.v_eq] at il
 obtain ⟨cs,hcs,hl4,hcl,hcc⟩:=Qn.v_agg (Wn a)
 simp only [Wn,Qn.v_eq] at ia ib il
 simp only [aaW,adZ,Qn.v_eq,zy,zw,Wn]
 repeat' (first|(refine zsk ?_;intro K' hK)|(refine zrg ?_;intro K' hK)|refine zsp ?_|(refine zsc ?_ ?_<;>intro hc<;>first|exact znh|try simp only [znz] at hc)|simp (maxSteps:=1000000) only [go_sem,V.shutOk0,Ue,V.shut0,qF,ntL,not_false_eq_true]|(refine hK _ ?_;clear hK K')|apply zan|(apply alC;(focus first|exact il))|(apply akr;(focus first|exact il);(focus first|exact rfl|decide))|((first|apply QJ|apply Jn);(focus first|exact ia|exact ib|exact (z0 _ zsd zsd).b|exact (z1 _ zsd).b))|exact zsq|fail)
 all_goals exact zr
end Av
end
section
namespace Av
open Go
mutual
def V.deep:V→List Nat
 | .hd a _ _=>[a]
 | .ptr a _=>[a]
 | .agg cs=>aiP cs
 | .tup cs=>aiP cs
 | .clo _ cs=>aiP cs
 | .top=>[]
 | .sc _=>[]
 | .nn=>[]
 | .sl _ _=>[]
 | .ept _ _ _=>[]
 | .mp _=>[]
 | .ro _ _=>[]
def aiP:List V→List Nat
 | []=>[]
 | v :: r=>v.deep++aiP r
end
attribute [go_sem] V.deep aiP List.nil_append zW List.cons_append
section
variable {Γ:Env} {b:Nat} {r:List AO} {s:St} {d:Option Nat} {f:FuncId} {acts args:List V} {res:V} {K:St→Prop} {okf:Option (List Nat)→Prop}
theorem atl (h:EvC Γ f args res) (hc:okf (some (aiP acts))) (hk:UY Γ (b + KK) r { t:=(s.put d res).t,o:=yG (some (aiP acts)) [] s.o,n:=s.n } K):ako Γ b r s d f acts args okf K:=by
 rintro rfl rfl
 refine Xi ⟨_,_,_,_,[],some (aiP acts),h.1,J1 _ _ _ hc,trivial,ki,by grind,by simp,by simp [KK],fun h=>by simp at h,?_⟩
 simp only [YY,Xd,YF _ _ h.2]
 exact hk
end
end Av
end
section
namespace Av
open Go
structure EvI (Γ:Env) (f:FuncId) (args:List V) (sx:Nat) (xs ys:List V):Prop where
 ev:Ev Γ f (.hd 0 0 xs.length :: args) [.buf true sx xs] (.hd 1 0 ys.length) [.dead,.buf true sx ys]
structure EvX (Γ:Env) (f:FuncId) (args:List V) (sx:Nat) (xs:List V):Prop where
 ev:Ev Γ f (.hd 0 0 xs.length :: args) [.buf true sx xs] (.hd 0 0 xs.length) [.buf true sx xs]
section
variable {Γ:Env} {A W:Nat→Bool} {b:Nat} {r:List AO} {s:St} {d:Option Nat} {f:FuncId} {acts args:List V} {okf:Option (List Nat)→Prop} {J K:St→Prop} {a n sx:Nat} {xs ys:List V} {x:V}
theorem ado (ha:s.o a = some (.buf true sx xs)) (h:EvI Γ f args sx xs ys) (hal:(Je acts).contains a = false) (hd:decide (a < b) = true) (hn:n = xs.length) (hc:Qp s.o (some (Je acts)) acts)
  (hk:UY Γ (b + KK) r { t:=(s.put d (.hd b 0 ys.length)).t,o:=upd (upd (yG (some (Je acts)) [a] s.o) b (some (.buf true sx ys))) a (some .dead),n:=s.n } K):ako Γ b r s d f (.hd a 0 n :: acts) (x :: args) okf K:=by
 intro h1 _
 simp only [JD,km] at h1
 obtain ⟨_,rfl⟩:=h1
 subst hn
 have hal':a ∉ Je acts:=by simpa using hal
 refine Xi ⟨_,_,_,_,[a],some (Je acts),h.ev,⟨?_,Yi s.o [a] _ (fun y hy=>?_) acts hc⟩,⟨⟨_,ha,rfl,rfl⟩,trivial⟩,by simp,by simpa using kh hd,by simp,by simp [KK],fun h=>by simp at h,?_⟩
 ·simp [conv]
 ·intro e
  rw [zu.1 e] at hy
  exact hal' hy
 ·simp only [YY,Xd,Ob.ren,V.ren,sig]
  exact hk
theorem aoQ (ha:s.o a = some (.buf true sx xs)) (h:EvX Γ f args sx xs) (hal:(Je acts).contains a = false) (hd:decide (a < b) = true) (hn:n = xs.length) (hc:Qp s.o (some (Je acts)) acts)
  (hk:UY Γ (b + KK) r { t:=(s.put d (.hd a 0 n)).t,o:=upd (yG (some (Je acts)) [a] s.o) a (some (.buf true sx xs)),n:=s.n } K):ako Γ b r s d f (.hd a 0 n :: acts) (x :: args) okf K:=by
 intro h1 _
 simp only [JD,km] at h1
 obtain ⟨_,rfl⟩:=h1
 subst hn
 have hal':a ∉ Je acts:=by simpa using hal
 refine Xi ⟨_,_,_,_,[a],some (Je acts),h.ev,⟨?_,Yi s.o [a] _ (fun y hy=>?_) acts hc⟩,⟨⟨_,ha,rfl,rfl⟩,trivial⟩,by simp,by simpa using kh hd,by simp,by simp [KK],fun h=>by simp at h,?_⟩
 ·simp [conv]
 ·intro e
  rw [zu.1 e] at hy
  exact hal' hy
 ·simp only [YY,Xd,Ob.ren,V.ren,sig]
  exact hk
theorem yZ {nt:Nat} {ac:AC} {rs:List Kk} (hb:Has Γ.P f nt ac rs) (ha:args.length + 1≤nt)
  (h:∀ C:Ctx,C.env = Γ→C.m = 1→AWp C nt ac (Va (.hd 0 0 xs.length :: args) [.buf true sx xs]) (acJ 1 rs (.hd 1 0 ys.length) [.dead,.buf true sx ys]) (fun _ _=>False) (acJ 1 rs (.hd 1 0 ys.length) [.dead,.buf true sx ys])):EvI Γ f args sx xs ys :=
 ⟨by grind [V5]⟩
theorem ae4 {nt:Nat} {ac:AC} {rs:List Kk} (hb:Has Γ.P f nt ac rs) (ha:args.length + 1≤nt)
  (h:∀ C:Ctx,C.env = Γ→C.m = 1→AWp C nt ac (Va (.hd 0 0 xs.length :: args) [.buf true sx xs]) (acJ 1 rs (.hd 0 0 xs.length) [.buf true sx xs]) (fun _ _=>False) (acJ 1 rs (.hd 0 0 xs.length) [.buf true sx xs])):EvX Γ f args sx xs :=
 ⟨by grind [V5]⟩
end
def asG (n:Nat) (v:Value):List Value:=List.replicate n v
theorem auK {x y n:Nat} {o:Nat→Option Ob}:yG (some [x,y]) [] o n = if n = x then (o n).map Ob.frz else if n = y then (o n).map Ob.frz else o n:=by
 simp only [yG,zo,zl,or_false,not_false_eq_true,and_true]
 by_cases h1:n = x<;>by_cases h2:n = y<;>simp [h1,h2]
theorem auJ {x y:Nat}:(x∈[x,y]) = True:=by simp
theorem auI {x y:Nat}:(y∈[x,y]) = True:=by simp
theorem auT {n:Int}:([V.sc (Value.int IntKind.i64 n)].all (Km IntKind.i64) = true) = True:=by simp [Km]
attribute [go_sem] auK auJ auI auT
theorem aiK {rs:List Kk} {s:St} {xs' ys:List V} {sx:Nat} (i n:Nat) (h:aeM s rs = some [.hd i 0 n]) (h0:∃ x,s.o 0 = some x) (hi:s.o i = some (.buf true sx xs')) (hi1:1≤i) (hx:xs' = ys) (hn:n = ys.length) :
  acJ 1 rs (.hd 1 0 ys.length) [.dead,.buf true sx ys] s:=by
 subst hn;subst hx
 obtain ⟨x0,e0⟩:=h0
 refine ju rs _ _ h ⟨[0,i],none,by simp [amf,conv],⟨⟨_,e0,?_⟩,⟨_,hi,fun h=>h,rfl,rfl⟩,trivial⟩,?_,rfl⟩
 ·simp [aqx]
 ·simp;omega
theorem aqM {rs:List Kk} {s:St} {xs' ys:List V} {sx:Nat} (n:Nat) (h:aeM s rs = some [.hd 0 0 n]) (hi:s.o 0 = some (.buf true sx xs')) (hx:xs' = ys) (hn:n = ys.length) :
  acJ 1 rs (.hd 0 0 ys.length) [.buf true sx ys] s:=by
 subst hn;subst hx
 exact ju rs _ _ h ⟨[0],none,by simp [amf,conv],⟨⟨_,hi,fun h=>h,rfl,rfl⟩,trivial⟩,by simp,rfl⟩
end Av
end
section
namespace Av
open Go
section
variable {Γ:Env} {A W:Nat→Bool} {b:Nat} {s:St} {d:Option Nat} {f:FuncId} {acts args:List V} {okf:Option (List Nat)→Prop} {J:St→Prop} {a n sx:Nat} {xs ys:List V} {x:V}
theorem aks (ha:s.o a = some (.buf true sx xs)) (hA:A a = true) (hW:W a = true) (h:EvI Γ f args sx xs ys) (hal:(Je acts).contains a = false) (hd:decide (a < b) = true) (hn:n = xs.length) (hl:((Je acts).all fun x=>A x && W x) = true) (hc:Qp (JO A s.o) (some (Je acts)) acts)
  (hk:J { t:=(s.put d (.hd b 0 ys.length)).t,o:=upd (upd (yG (some (Je acts)) [a] s.o) b (some (.buf true sx ys))) a (some .dead),n:=s.n }):afM Γ A W b s d f (.hd a 0 n :: acts) (x :: args) okf J:=by
 intro h1 _
 simp only [JD,km] at h1
 obtain ⟨_,rfl⟩:=h1
 subst hn
 have hal':a ∉ Je acts:=by simpa using hal
 have hra:JO A s.o a = some (.buf true sx xs):=by rw [acg,if_pos hA,ha]
 refine ⟨_,_,_,_,[a],some (Je acts),h.ev,⟨?_,Yi _ [a] _ (fun y hy=>?_) acts hc⟩,⟨⟨_,hra,rfl,rfl⟩,trivial⟩,by simp,?_,by simp,by simp [KK],fun h=>by simp at h,fun l h x hx=>(by cases h;simpa using kw.1 hl x hx),?_⟩
 ·simp [conv]
 ·intro e
  rw [zu.1 e] at hy
  exact hal' hy
 ·intro y hy
  rw [zu.1 hy]
  exact ⟨kh hd,hW⟩
 ·simp only [YY,Xd,Ob.ren,V.ren,sig]
  exact hk
theorem akp (ha:s.o a = some (.buf true sx xs)) (hA:A a = true) (hW:W a = true) (h:EvX Γ f args sx xs) (hal:(Je acts).contains a = false) (hd:decide (a < b) = true) (hn:n = xs.length) (hl:((Je acts).all fun x=>A x && W x) = true) (hc:Qp (JO A s.o) (some (Je acts)) acts)
  (hk:J { t:=(s.put d (.hd a 0 n)).t,o:=upd (yG (some (Je acts)) [a] s.o) a (some (.buf true sx xs)),n:=s.n }):afM Γ A W b s d f (.hd a 0 n :: acts) (x :: args) okf J:=by
 intro h1 _
 simp only [JD,km] at h1
 obtain ⟨_,rfl⟩:=h1
 subst hn
 have hal':a ∉ Je acts:=by simpa using hal
 have hra:JO A s.o a = some (.buf true sx xs):=by rw [acg,if_pos hA,ha]
 refine ⟨_,_,_,_,[a],some (Je acts),h.ev,⟨?_,Yi _ [a] _ (fun y hy=>?_) acts hc⟩,⟨⟨_,hra,rfl,rfl⟩,trivial⟩,by simp,?_,by simp,by simp [KK],fun h=>by simp at h,fun l h x hx=>(by cases h;simpa using kw.1 hl x hx),?_⟩
 ·simp [conv]
 ·intro e
  rw [zu.1 e] at hy
  exact hal' hy
 ·intro y hy
  rw [zu.1 hy]
  exact ⟨kh hd,hW⟩
 ·simp only [YY,Xd,Ob.ren,V.ren,sig]
  exact hk
end
end Av
end
