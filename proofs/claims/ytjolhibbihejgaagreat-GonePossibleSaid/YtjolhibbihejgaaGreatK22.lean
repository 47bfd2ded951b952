/- K22 -/
import Derived.Test.YtjolhibbihejgaaGreatK21
import Derived.Test.YtjolhibbihejgaaGreatK12
import Derived.Test.YtjolhibbihejgaaGreatK18
import Derived.Test.YtjolhibbihejgaaGreatK16
import Derived.Test.YtjolhibbihejgaaGreatK15
set_option linter.unusedVariables false
set_option linter.unusedSimpArgs false
noncomputable section
set_option maxRecDepth 10000
set_option maxHeartbeats 4000000
namespace Av
open Go
attribute [local irreducible] AWp UY qH yr awS awC aaT awQ abS Q1 Ub aaE awR Ux awB okR ym ris
theorem amK {α:Type} {p:α→Bool} {l r:List α} {k:Nat} {x:α} (h:l.drop k = x :: r):(l.drop k).any p = (p x || (l.drop (k + 1)).any p):=by
 obtain ⟨_,_,hr⟩:=Qk h
 rw [h,List.any_cons,hr]
def KZ (c:UInt8):Bool:=decide ((c.toNat:Int)≤32) || decide ((c.toNat:Int) > 126)
def Qw (s:List UInt8):Bool:=!s.any KZ && (decide ((s.length:Int)≥1) && decide ((s.length:Int)≤32))
def jz:=qd Proofs.Tryz.f90 []
def xE (Γ:Env) (f:Nat):Prop:=∀ (s:List UInt8) (hs:s.length < 2 ^ 60),EvN Γ f [V.str s] (V.bool (Qw s))
theorem ag6 {Γ:Env} {f:Nat} (h:Has Γ.P f 28 jz.1.1.ac jz.1.2) :xE Γ f:=by
 intro s hs
 refine Qa h zsi zcl zcl fun C hC hm=>?_
 subst hC
 simp only [jz,qd,DC.ac]
 by_cases h0:s.length < 1
 ·have e1:decide ((s.length:Int) < 1) = true:=zv (by omega)
  have e2:Qw s = false:=by unfold Qw;rw [zp (by omega:¬ (s.length:Int)≥1)];simp
  rw [e2]
  (have zx:=e1);exact zg
 have e1:decide ((s.length:Int) < 1) = false:=zp (by omega)
 by_cases h1:s.length > 32
 ·have e3:decide ((s.length:Int) > 32) = true:=zv (by omega)
  have e2:Qw s = false:=by unfold Qw;rw [zp (by omega:¬ (s.length:Int)≤32)];simp
  rw [e2]
  (have zx:=za e1 e3);exact zg
 have e3:decide ((s.length:Int) > 32) = false:=zp (by omega)
 have e2:Qw s = !s.any KZ:=by unfold Qw;rw [zv (by omega:(s.length:Int)≤32),zv (by omega:(s.length:Int)≥1)];simp
 rw [e2]
 (have zx:=za e1 e3);refine zgo ?_;repeat' first|exact zt|apply zan|intro hc
 refine Jg (ι:=Nat) (fun k=>k≤s.length∧(s.drop k).any KZ = s.any KZ) (fun k=>[(3,V.int k)]) (fun k=>s.length - k) 0 (by omega) ⟨by simp,by simp⟩ zol zlt zet fun k hk K' hL=>?_
 obtain ⟨hk,hinv⟩:=hk
 simp only [ovT,Yr,Nat.reduceEqDiff,reduceIte]
 rcases hd:s.drop k with _|⟨c,r⟩
 ·have:=Qr hd
  rw [hd] at hinv
  have e4:decide ((k:Int) < ((s.length:Nat):Int)) = false:=by simp;omega
  rw [← hinv]
  (have zx:=e4);refine zgo ?_;repeat' first|exact zt|apply zan|intro hc
  all_goals first|exact zr|(refine Qi _ rfl ?_;simp only [go_sem];simp;done)
 ·obtain ⟨hk',hget,hr⟩:=Qk hd
  have hst:=amK (p:=KZ) hd
  rw [hinv] at hst
  have hw:=Qg (k:=k) (by omega)
  have e4:decide ((k:Int) < ((s.length:Nat):Int)) = true:=by simp;omega
  have e5:decide ((c.toNat:Int) < 33) = decide ((c.toNat:Int)≤32):=decide_eq_decide.2 (by omega)
  rcases h2:decide ((c.toNat:Int)≤32) with _|_
  ·rcases h3:decide ((c.toNat:Int) > 126) with _|_
   ·have hb:KZ c = false:=by unfold KZ;rw [h2,h3];rfl
    rw [hb,Z4] at hst
    (have zx:=za e4 (za hw (za hget (za e5 (za h2 h3)))));refine zgo ?_;repeat' first|exact zt|apply zan|intro hc
    all_goals first
     | exact hL _ (k + 1) zet ⟨by omega,hst.symm⟩ (by omega) zoe
   ·have hb:KZ c = true:=by unfold KZ;rw [h3,kY]
    rw [hb,kZ] at hst
    rw [hst]
    (have zx:=za e4 (za hw (za hget (za e5 (za h2 h3)))));exact zg
  ·have hb:KZ c = true:=by unfold KZ;rw [h2,kZ]
   rw [hb,kZ] at hst
   rw [hst]
   (have zx:=za e4 (za hw (za hget (za e5 h2))));exact zg
def okP {α:Type} (p:α→Bool) (q:α→α→Bool) (l:List α) (k:Nat):Bool:=(List.range k).all fun i=>match l[i]? with|some x=>p x && (i == 0 || match l[i - 1]? with|some y=>q y x|none=>false)|none=>false
theorem akV {α:Type} (p:α→Bool) (q:α→α→Bool) (l:List α):okP p q l 0 = true:=rfl
theorem vi {α:Type} (p:α→Bool) (q:α→α→Bool) (l:List α) (k:Nat):okP p q l (k + 1) = (okP p q l k && match l[k]? with|some x=>p x && (k == 0 || match l[k - 1]? with|some y=>q y x|none=>false)|none=>false):=by
 rw [okP,okP,ZL,List.all_append];simp
theorem agO {α:Type} {p:α→Bool} {q:α→α→Bool} {l:List α} {k n:Nat} (h:okP p q l k = false) (hk:k≤n):okP p q l n = false:=by
 rw [okP,Zo] at h ⊢
 obtain ⟨i,hi,h⟩:=h
 exact ⟨i,Zj.2 (kr (Zj.1 hi) hk),h⟩
theorem agN {α:Type} {p:α→Bool} {q:α→α→Bool} {l:List α} {x:α} (h:l[0]? = some x):okP p q l 1 = p x:=by
 rw [vi,akV,h];simp
theorem ad2 {α:Type} {p:α→Bool} {q:α→α→Bool} {l:List α} {k:Nat} {x y:α} (h:l[k + 1]? = some x) (h':l[k]? = some y):okP p q l (k + 2) = (okP p q l (k + 1) && (p x && q y x)):=by
 rw [vi,h];simp [h']
def ajj (a b k:Int):Bool:=decide (Qv a b > 0) && ((Wh a).kind == k)
def ahF (n:Int):Bool:=decide (n≥0) && decide (n≤2147483648)
def asl (n:Int):Bool:=decide (n≥0) && decide (n < 4294967296)
def xQ (l:List (List UInt8)):Bool:=okP Qw Op.bytesLess l l.length && decide ((l.length:Int)≤8)
structure Jl where
 serial:Int
 issuer:List UInt8
 subject:List UInt8
 kalg:Int
 kbits:Int
 kid:Int
 halg:Int
 hbits:Int
 from_:Int
 to_:Int
 auth:Bool
 path:Int
 names:List (List UInt8)
 skey:Int
 ssum:Int
def Jl.cells (c:Jl):List V:=[V.int c.serial,V.str c.issuer,V.str c.subject,V.int c.kalg,V.int c.kbits,V.int c.kid,V.int c.halg,V.int c.hbits,V.int c.from_,V.int c.to_,V.bool c.auth,V.int c.path,.sl 1 (c.names.map V.str),V.int c.skey,V.int c.ssum]
def Jl.v (c:Jl):V:=.agg c.cells
def aht (c:Jl):Bool:=decide (c.serial < 0) || (decide (c.serial > 1099511627776) || (!Qw c.issuer || (!Qw c.subject || !xQ c.names)))
def aiX (c:Jl):Bool:=!ajj c.kalg c.kbits 2 || (!ahF c.kid || (!ajj c.halg c.hbits 1 || (!ahF c.skey || !asl c.ssum)))
def amB (c:Jl):Bool:=decide (c.from_ < 0) || (decide (c.from_ > c.to_) || decide (c.to_ > 40000))
def aiW (c:Jl):Bool:=decide (c.path≥0) && (decide (c.path≤8) && (c.auth || (c.path == 0)))
def U8 (c:Jl):Bool:=!aht c && (!aiX c && (!amB c && aiW c))
def Uu:=qd Proofs.Tryz.f66 []
def JU (Γ:Env) (f:Nat):Prop:=∀ (s:List UInt8) (hs:s.length < 2 ^ 60),EvN Γ f [V.str s] (V.bool (Qw s))
attribute [local go_sem] Yh in
theorem adN {Γ:Env} {f:Nat} (h:Has Γ.P f 27 Uu.1.1.ac Uu.1.2) :JU Γ f:=by
 intro s hs
 refine Qa h zsi zcl zcl fun C hC hm=>?_
 subst hC
 simp only [Uu,qd,DC.ac]
 refine zgo ?_;repeat' first|exact zt|apply zan|intro hc
 refine Qs (ι:=Nat) (fun k=>k≤s.length∧(s.drop k).any KZ = s.any KZ) (fun k=>Yh [(0,V.str s),(6,.hd 0 0 s.length),(7,V.int s.length),(8,V.int k)] [(0,.buf false 1 (s.map fun c=>V.sc (.int .u8 c.toNat)))] 1) (fun k=>s.length - k) 0 ⟨by omega,by simp⟩ (Qf [(0,2000)]) (zwg [(0,2000)]) fun k hk K' hL=>?_
 obtain ⟨hk,hinv⟩:=hk
 rcases hd:s.drop k with _|⟨c,r⟩
 ·have hkl:=Qr hd
  rw [hd] at hinv
  have e1:decide ((k:Int) < ((s.length:Nat):Int)) = false:=by simp;omega
  have hok:Qw s = (decide ((s.length:Int)≥1) && decide ((s.length:Int)≤32)):=by rw [Qw,← hinv];rfl
  rw [hok]
  rcases hq:decide ((s.length:Int)≥1) with _|_
  ·(have zx:=za e1 hq);exact zg
  ·(have zx:=za e1 hq);refine zgo ?_;repeat' first|exact zt|apply zan|intro hc
   all_goals first|exact zr|(refine Qi _ rfl ?_;simp only [go_sem];simp;done)
 ·obtain ⟨hk',hget,hr⟩:=Qk hd
  rw [hd] at hinv
  have hw:=Qg (k:=k) (by omega)
  have e1:decide ((k:Int) < ((s.length:Nat):Int)) = true:=by simp;omega
  rcases h1:decide ((c.toNat:Int)≤32) with _|_
  ·rcases h2:decide ((c.toNat:Int) > 126) with _|_
   ·(have zx:=za e1 (za hw (za hget (za h1 h2))));refine zgo ?_;repeat' first|exact zt|apply zan|intro hc
    all_goals first
     | exact hL _ (k + 1) (Qf [(0,0)]) ⟨by omega,by rw [hr,← hinv];simp only [List.any_cons,KZ,h1,h2,Bool.or_self,Z4]⟩ (by omega) (zwg [(0,0)])
   ·have hok:Qw s = false:=by rw [Qw,← hinv];simp only [List.any_cons,KZ,h2,kY,kZ,Zd,zY]
    rw [hok]
    (have zx:=za e1 (za hw (za hget (za h1 h2))));exact zg
  ·have hok:Qw s = false:=by rw [Qw,← hinv];simp only [List.any_cons,KZ,h1,kY,kZ,Zd,zY]
   rw [hok]
   (have zx:=za e1 (za hw (za hget h1)));exact zg
def WW:=qd Proofs.Tryz.f63 []
def Yg (Γ:Env) (f:Nat):Prop:=∀ (n:Int),EvN Γ f [V.int n] (V.bool (ahF n))
theorem abH {Γ:Env} {f:Nat} (h:Has Γ.P f 9 WW.1.1.ac WW.1.2) :Yg Γ f:=by
 intro n
 refine Qa h zsi zcl zcl fun C hC hm=>?_
 subst hC
 simp only [WW,qd,DC.ac]
 unfold ahF
 refine zgo ?_;repeat' first|exact zt|apply zan|intro hc
 all_goals first|exact zr|(refine Qi _ rfl ?_;simp only [go_sem];simp [*];done)
def WU:=qd Proofs.Tryz.f184 []
def UU (Γ:Env) (f:Nat):Prop:=∀ (n:Int),EvN Γ f [V.int n] (V.bool (asl n))
theorem abF {Γ:Env} {f:Nat} (h:Has Γ.P f 9 WU.1.1.ac WU.1.2) :UU Γ f:=by
 intro n
 refine Qa h zsi zcl zcl fun C hC hm=>?_
 subst hC
 simp only [WU,qd,DC.ac]
 unfold asl
 refine zgo ?_;repeat' first|exact zt|apply zan|intro hc
 all_goals first|exact zr|(refine Qi _ rfl ?_;simp only [go_sem];simp [*];done)
def VB:=qd Proofs.Tryz.f183 []
def Ki (Γ:Env) (f:Nat):Prop:=∀ (a b k:Int),EvN Γ f [.agg [V.int a,V.int b],V.int k] (V.bool (ajj a b k))
theorem acE {Γ:Env} {f:Nat} (h:Has Γ.P f 14 VB.1.1.ac VB.1.2) (z0:Yl Γ 67) (z1:Xo Γ 97):Ki Γ f:=by
 intro a b k
 refine Qa h zsi zcl zcl fun C hC hm=>?_
 subst hC
 simp only [VB,qd,DC.ac]
 unfold ajj
 rcases hq:decide (Qv a b > 0) with _|_
 ·(have zx:=hq);refine zgo ?_;repeat' first|exact zt|apply zan|intro hc
  all_goals first|exact zr|(refine Qi _ rfl ?_;simp only [go_sem];simp [*];done)
 ·(have zx:=hq);refine zgo ?_;repeat' first|exact zt|apply zan|intro hc
  all_goals first|exact zr|(refine Qi _ rfl ?_;simp only [go_sem];simp [*];done)
def XB:=qd Proofs.Tryz.f182 []
def Vi (Γ:Env) (f:Nat):Prop:=∀ (l:List (List UInt8)) (hl:l.length < 2 ^ 60) (hn:∀ x∈l,x.length < 2 ^ 60),EvN Γ f [.sl 1 (l.map V.str)] (V.bool (xQ l))
attribute [local go_sem] zb in
theorem vP {Γ:Env} {f:Nat} (h:Has Γ.P f 32 XB.1.1.ac XB.1.2) (z0:JU Γ 66):Vi Γ f:=by
 intro l hl hn
 refine Qa h zsi zcl zcl fun C hC hm=>?_
 subst hC
 simp only [XB,qd,DC.ac]
 refine zgo ?_;repeat' first|exact zt|apply zan|intro hc
 refine Jg (ι:=Nat) (fun k=>k≤l.length∧okP Qw Op.bytesLess l k = true) (fun k=>[(7,V.int k)]) (fun k=>l.length - k) 0 (by omega) ⟨zA _,rfl⟩ zol zlt zet fun k hk K' hL=>?_
 obtain ⟨hk,hinv⟩:=hk
 simp only [ovT,Yr,Nat.reduceEqDiff,reduceIte]
 rcases hd:l.drop k with _|⟨x,r⟩
 ·have hkl:=Qr hd
  have e1:decide ((k:Int) < (((l.map V.str).length:Nat):Int)) = false:=by simp;omega
  have hkk:k = l.length:=by omega
  subst hkk
  rw [xQ,hinv,zP]
  (have zx:=e1);exact zg
 ·obtain ⟨hk',hget,hr⟩:=Qk hd
  have hw:=Qg (k:=k) (by omega)
  have e1:decide ((k:Int) < (((l.map V.str).length:Nat):Int)) = true:=by simp;omega
  have hnx:=(z0 x (hn x (zq hget))).b
  have hbad:okP Qw Op.bytesLess l (k + 1) = false→xQ l = false:=fun h=>by rw [xQ,agO h (by omega),zY]
  rcases hx:Qw x with _|_
  ·have hb:okP Qw Op.bytesLess l (k + 1) = false:=by rw [vi,hget];simp [hx]
   rw [hbad hb]
   rw [hx] at hnx
   (have zx:=za e1 (za hw hget));exact zg
  ·rw [hx] at hnx
   rcases k with _|k
   ·have hw0:IntKind.i64.wrap 1 = ((1:Nat):Int):=by decide
    have hg1:okP Qw Op.bytesLess l (0 + 1) = true:=by rw [agN hget,hx]
    have e2:decide (((0:Nat):Int) > 0) = false:=rfl
    (have zx:=za e1 (za e2 (za hw (za hw0 hget))));refine zgo ?_;repeat' first|exact zt|apply zan|intro hc
    all_goals exact hL _ 1 zet ⟨by omega,hg1⟩ (by omega) zoe
   ·have e2:decide (((k + 1:Nat):Int) > 0) = true:=zv (by omega)
    have hw2:IntKind.i64.wrap (((k + 1:Nat):Int) - 1) = (k:Int):=by rw [Q9 (by omega) (by omega)];omega
    obtain ⟨y,hgy⟩:∃ y,l[k]? = some y:=⟨_,zd (by omega)⟩
    have hnext:=ad2 (p:=Qw) (q:=Op.bytesLess) hget hgy
    rw [hinv,hx] at hnext
    rcases hb:Op.bytesLess y x with _|_
    ·rw [hbad (by rw [hnext,hb];rfl)]
     (have zx:=za e1 (za e2 (za hw (za hw2 (za hget (za hgy hb))))));exact zg
    ·(have zx:=za e1 (za e2 (za hw (za hw2 (za hget (za hgy hb))))));refine zgo ?_;repeat' first|exact zt|apply zan|intro hc
     all_goals exact hL _ (k + 2) zet ⟨by omega,by rw [hnext,hb];rfl⟩ (by omega) zoe
def XA:=qd Proofs.Tryz.f136 []
def Vh (Γ:Env) (f:Nat):Prop:=∀ (c:Jl) (h1:c.issuer.length < 2 ^ 60) (h2:c.subject.length < 2 ^ 60) (h3:c.names.length < 2 ^ 60) (h4:∀ x∈c.names,x.length < 2 ^ 60),EvN Γ f [c.v] (V.bool (U8 c))
theorem vO {Γ:Env} {f:Nat} (h:Has Γ.P f 91 XA.1.1.ac XA.1.2) (z0:JU Γ 66) (z1:Vi Γ 182) (z2:Ki Γ 183) (z3:Yg Γ 63) (z4:UU Γ 184):Vh Γ f:=by
 intro c h1 h2 h3 h4
 refine Qa h zsi zcl zcl fun C hC hm=>?_
 subst hC
 simp only [XA,qd,DC.ac]
 have hn:=(z1 c.names h3 h4).b
 have ha:=(z0 c.issuer h1).b
 have hb:=(z0 c.subject h2).b
 simp only [Jl.v,Jl.cells]
 refine zgo ?_;repeat' first|exact zt|apply zan|intro hc
 all_goals (refine Qi _ rfl ?_;simp only [go_sem];simp [U8,aht,aiX,amB,aiW, *];done)
def XC:=qd Proofs.Tryz.f98 []
def Vj (Γ:Env) (f:Nat):Prop:=∀ (c:Jl) (h1:c.issuer.length < 2 ^ 60) (h2:c.subject.length < 2 ^ 60) (h3:c.names.length < 2 ^ 60) (h4:∀ x∈c.names,x.length < 2 ^ 60),EvN Γ f [c.v] (V.int (if U8 c = true then 0 else 9))
theorem vQ {Γ:Env} {f:Nat} (h:Has Γ.P f 6 XC.1.1.ac XC.1.2) (z0:Vh Γ 136):Vj Γ f:=by
 intro c h1 h2 h3 h4
 refine Qa h zsi zcl zcl fun C hC hm=>?_
 subst hC
 simp only [XC,qd,DC.ac]
 have hv:=(z0 c h1 h2 h3 h4).b
 simp only [Jl.v,Jl.cells] at hv ⊢
 rcases hc2:U8 c with _|_
 ·rw [hc2] at hv
  exact zg
 ·rw [hc2] at hv
  exact zg
def jJ:=qd Proofs.Tryz.f218 []
def xO (Γ:Env) (f:Nat):Prop:=∀ (x:Qn) (hx:x.siz < 2 ^ 35) (hp:x.pB.length < 65536),EvC Γ f [x.v] (amU x)
attribute [local go_sem] X7 in
theorem ahi {Γ:Env} {f:Nat} (h:Has Γ.P f 17 jJ.1.1.ac jJ.1.2) (z0:xM Γ 233) (z1:wZ Γ 234) (z2:yf Γ 235):xO Γ f:=by
 intro x hx hp
 refine Ql h zsi (aax _) fun C hC hm=>?_
 subst hC
 simp only [jJ,qd,DC.ac]
 have hf:=(z0 x (by omega)).b
 have hd:=(z1 x (by omega)).b
 have hel:=z2 x
 have he:amU x = if x.fB = false then .tup [.sl 1 [],V.int 1] else if x.dep > 16 then .tup [.sl 1 [],V.int 3] else if x.pB.length > 4096 then .tup [.sl 1 [],V.int 3] else .tup [.sl 1 (JT x.pB),V.int 0]:=rfl
 rw [he]
 generalize x.dep = d at *
 generalize hq:x.fB = q at *
 rcases q with _|_
 ·rw [if_pos rfl]
  obtain ⟨t,b,n,es⟩:=x
  rw [Qn.v_eq] at *
  exact zg
 ·rw [if_neg (by decide)]
  have hw:=(hel rfl hx hp).2
  clear hel
  generalize x.pB = p at *
  obtain ⟨t,b,n,es⟩:=x
  rw [Qn.v_eq] at *
  by_cases h2:d > 16
  ·rw [if_pos h2]
   have e2:decide ((d:Int) > 16) = true:=by simp;omega
   (have zx:=e2);exact zg
  ·rw [if_neg h2]
   have e2:decide ((d:Int) > 16) = false:=by simp;omega
   have hpl:((JT p).length:Int) = (p.length:Int):=by rw [X7]
   have htk:List.take p.length (JT p) = JT p:=zi (by rw [X7];omega)
   by_cases h3:p.length > 4096
   ·rw [if_pos h3]
    have e3:decide ((p.length:Int) > 4096) = true:=by simp;omega
    (have zx:=za e2 (za hpl e3));exact zg
   ·rw [if_neg h3]
    have e3:decide ((p.length:Int) > 4096) = false:=by simp;omega
    (have zx:=za e2 (za hpl e3));refine zgo ?_;repeat' first|exact zt|apply zan|intro hc
    all_goals first|(refine Qi _ rfl ?_;simp only [go_sem,htk];done)|exact zr
def QK (u:Int×Int):V:=.agg [V.int u.1,V.int u.2]
structure JM where
 alg:Int
 bits:Int
 pur:Int
 ep:List UInt8
 fr:Int
 to:Int
 seals:List (Int×Int)
def JM.cells (x:JM):List V:=[V.int x.alg,V.int x.bits,V.int x.pur,V.str x.ep,V.int x.fr,V.int x.to,.sl 2 (x.seals.map QK)]
def JM.v (x:JM):V:=.agg x.cells
def yq:Option Int→List (Int×Int)→Bool
 | _,[]=>true
 | p,s :: r=>ahF s.1 && (!decide (s.2 < 0) && (!decide (s.2≥4294967296) && ((match p with|none=>true|some q=>!decide (q≥s.1)) && yq (some s.1) r)))
def exA (x:JM):Bool:=decide (Qv x.alg x.bits > 0) && (!decide (x.pur < 1) && (!decide (x.pur > 4) && Qw x.ep))
def exD (x:JM):Bool:=!decide (x.fr < 0) && (!decide (x.fr≥x.to) && (!decide (x.to > 40001) && !decide ((x.seals.length:Int) > 8)))
def aiv (x:JM):Bool:=exA x && (exD x && yq none x.seals)
def ag1 (x:JM):Int:=if aiv x = true then 0 else 26
def ah3 (l:List (Int×Int)):Nat→Option Int
 | 0=>none
 | k + 1=>(l[k]?).map Prod.fst
def WP:=qd Proofs.Tryz.f49 [zhn 30]
def X9 (Γ:Env) (f:Nat):Prop:=∀ (x:JM) (hn:x.ep.length < 2 ^ 60),EvN Γ f [x.v] (V.int (ag1 x))
attribute [local go_sem] Yh QK in
theorem abA {Γ:Env} {f:Nat} (h:Has Γ.P f 89 WP.1.1.ac WP.1.2) (z0:Yl Γ 67) (z1:JU Γ 66) (z2:Yg Γ 63):X9 Γ f:=by
 intro x hn
 refine Qa h zsi zcl zcl fun C hC hm=>?_
 subst hC
 simp only [WP,qd,DC.ac]
 have gV:=(z0 x.alg x.bits).b
 have gN:=(z1 x.ep hn).b
 have hlm:(x.seals.map QK).length = x.seals.length:=zb _
 simp only [JM.v,JM.cells]
 have hA:exA x = (decide (Qv x.alg x.bits > 0) && (!decide (x.pur < 1) && (!decide (x.pur > 4) && Qw x.ep))):=rfl
 have hD:exD x = (!decide (x.fr < 0) && (!decide (x.fr≥x.to) && (!decide (x.to > 40001) && !decide ((x.seals.length:Int) > 8)))):=rfl
 rcases hA0:exA x with _|_
 ·have hE:ag1 x = 26:=by rw [ag1,aiv,hA0];rfl
  rw [hE]
  rw [hA0] at hA
  rcases a1:decide (Qv x.alg x.bits > 0) with _|_
  ·(have zx:=a1);exact zg
  rcases a2:decide (x.pur < 1) with _|_
  rotate_left
  ·(have zx:=za a1 a2);exact zg
  rcases a3:decide (x.pur > 4) with _|_
  rotate_left
  ·(have zx:=za a1 (za a2 a3));exact zg
  have a4:Qw x.ep = false:=by rw [a1,a2,a3] at hA;exact hA.symm
  (have zx:=za a1 (za a2 (za a3 a4)));exact zg
 rw [hA0] at hA
 have hA':=hA.symm
 simp only [zC,kS] at hA'
 obtain ⟨a1,a2,a3,a4⟩:=hA'
 rcases hD0:exD x with _|_
 ·have hE:ag1 x = 26:=by rw [ag1,aiv,hA0,hD0];rfl
  rw [hE]
  rw [hD0] at hD
  rcases b1:decide (x.fr < 0) with _|_
  rotate_left
  ·(have zx:=za a1 (za a2 (za a3 (za a4 b1))));exact zg
  rcases b2:decide (x.fr≥x.to) with _|_
  rotate_left
  ·(have zx:=za a1 (za a2 (za a3 (za a4 (za b1 b2)))));exact zg
  rcases b3:decide (x.to > 40001) with _|_
  rotate_left
  ·(have zx:=za a1 (za a2 (za a3 (za a4 (za b1 (za b2 b3))))));exact zg
  have b4:decide ((x.seals.length:Int) > 8) = true:=by
   rw [b1,b2,b3] at hD
   simpa using hD.symm
  (have zx:=za a1 (za a2 (za a3 (za a4 (za b1 (za b2 (za b3 (za b4 hlm))))))));exact zg
 rw [hD0] at hD
 have hD':=hD.symm
 simp only [zC,kS] at hD'
 obtain ⟨b1,b2,b3,b4⟩:=hD'
 have hE:ag1 x = if yq none x.seals = true then 0 else 26:=by rw [ag1,aiv,hA0,hD0];rfl
 rw [hE]
 have hl8:x.seals.length≤8:=by
  have:=of_decide_eq_false b4;omega
 (have zx:=za a1 (za a2 (za a3 (za a4 (za b1 (za b2 (za b3 (za b4 hlm))))))));refine zgo ?_;repeat' first|exact zt|apply zan|intro hc
 clear gV gN hA hD hA0 hD0 hE
 generalize x.seals = l at *
 refine Qs (ι:=Nat) (fun k=>k≤l.length∧yq (ah3 l k) (l.drop k) = yq none l) (fun k=>Yh [(1,.ptr 0 0),(51,.sl 2 (l.map QK)),(52,V.int l.length),(53,V.int k)] [(0,.box true [V.int x.alg,V.int x.bits,V.int x.pur,V.str x.ep,V.int x.fr,V.int x.to,.sl 2 (l.map QK)])] 1) (fun k=>l.length - k) 0 ⟨zA _,rfl⟩ (Qf []) (Qo [] (by simp only [go_sem,zwl,hlm]<;>exact zcc) zwa (by simp [Qf]) (by simp) (by omega)) fun k hk K' hL=>?_
 obtain ⟨hk,hinv⟩:=hk
 rcases hd:l.drop k with _|⟨y,r⟩
 ·have hkl:=Qr hd
  have e1:decide ((k:Int) < ((l.length:Nat):Int)) = false:=by simp;omega
  rw [hd] at hinv
  have hs:yq none l = true:=by rw [← hinv];cases ah3 l k<;>rfl
  rw [if_pos hs]
  clear hL
  (have zx:=za hlm e1);exact zg
 ·obtain ⟨hk',hget,hr⟩:=Qk hd
  have hw:=Qg (k:=k) (by omega)
  have e1:decide ((k:Int) < ((l.length:Nat):Int)) = true:=by simp;omega
  have gK:=(z2 y.1).b
  rw [hd] at hinv
  have hgo:yq (ah3 l k) (y :: r) = (ahF y.1 && (!decide (y.2 < 0) && (!decide (y.2≥4294967296) && ((match ah3 l k with|none=>true|some q=>!decide (q≥y.1)) && yq (some y.1) r)))):=rfl
  have hnx:ah3 l (k + 1) = some y.1:=by rw [ah3,hget];rfl
  obtain ⟨yk,ys⟩:=y
  simp only at hgo gK hnx
  rw [hinv] at hgo
  rcases c1:ahF yk with _|_
  ·rw [c1] at hgo gK
   rw [hgo,if_neg (by simp)]
   clear hL
   (have zx:=za hlm (za e1 hget));exact zg
  rw [c1] at hgo gK
  rcases c2:decide (ys < 0) with _|_
  rotate_left
  ·rw [hgo,c2,if_neg (by simp)]
   clear hL
   (have zx:=za hlm (za e1 (za hget c2)));exact zg
  rcases c3:decide (ys≥4294967296) with _|_
  rotate_left
  ·rw [hgo,c2,c3,if_neg (by simp)]
   clear hL
   (have zx:=za hlm (za e1 (za hget (za c2 c3))));exact zg
  rw [c2,c3] at hgo
  simp only [ku,zP] at hgo
  rcases k with _|j
  ·have hgo':yq none l = yq (some yk) r:=hgo
   have e2:decide ((((0:Nat):Nat):Int) > 0) = false:=rfl
   (have zx:=za hlm (za e1 (za hw (za hget (za c2 (za c3 e2))))));refine zgo ?_;repeat' first|exact zt|apply zan|intro hc
   all_goals exact hL _ 1 (Qf []) ⟨hk',by rw [hr,hnx];exact hgo'.symm⟩ (by omega) (zwg [])
  obtain ⟨⟨pk,ps⟩,hpg⟩:∃ q,l[j]? = some q:=⟨_,zd (by omega)⟩
  have hpv:ah3 l (j + 1) = some pk:=by rw [ah3,hpg];rfl
  have e2:decide (((j + 1:Nat):Int) > 0) = true:=by simp
  have hw2:IntKind.i64.wrap (((j + 1:Nat):Int) - 1) = (j:Int):=by rw [show ((j + 1:Nat):Int) - 1 = (j:Int) by omega];exact Q9 (by omega) (by omega)
  rw [hpv] at hgo
  simp only at hgo
  rcases c4:decide (pk≥yk) with _|_
  rotate_left
  ·rw [hgo,c4,if_neg (by simp)]
   clear hL
   (have zx:=za hlm (za e1 (za hw2 (za hget (za hpg (za c2 (za c3 (za c4 e2))))))));exact zg
  rw [c4] at hgo
  simp only [ku,zP] at hgo
  (have zx:=za hlm (za e1 (za hw (za hw2 (za hget (za hpg (za c2 (za c3 (za c4 e2)))))))));refine zgo ?_;repeat' first|exact zt|apply zan|intro hc
  all_goals exact hL _ (j + 1 + 1) (Qf []) ⟨hk',by rw [hr,hnx];exact hgo.symm⟩ (by omega) (zwg [])
def exP (x:JM):Qn:=adZ [Wn x.alg,Wn x.bits,Wn x.pur,yj x.ep,Wn x.fr,Wn x.to]
theorem adY (s:List UInt8):(yj s).siz = 1 + s.length:=by rw [yj,Qn.siz,jP];omega
theorem aof {x:JM} (h:x.ep.length≤32):(exP x).siz≤120:=by
 have h1:=XS x.alg
 have h2:=XS x.bits
 have h3:=XS x.pur
 have h4:=XS x.fr
 have h5:=XS x.to
 have h6:=adY x.ep
 rw [exP,adZ,Qn.siz]
 simp only [jP,List.length_nil]
 omega
theorem asX (n:Int):(Wn n).fB = true:=by simp [Wn,Qn.fB,fL,hdB,akH]
theorem ast (s:List UInt8):(yj s).fB = true:=by simp [yj,Qn.fB,fL,hdB,akH]
theorem at7 (x:JM):(exP x).fB = true:=by simp [exP,adZ,Qn.fB,fL,hdB,akH,asX,ast]
theorem arL (x:JM):(exP x).dep = 2:=rfl
theorem aj3 {x:JM} (h:x.ep.length≤32):(exP x).pB.length≤1200:=by
 have:=akP (exP x)
 have:=aof h
 omega
theorem arK {x:JM} (h:x.ep.length≤32):amU (exP x) = .tup [.sl 1 (JT (exP x).pB),V.int 0]:=by
 have:=aj3 h
 rw [amU,at7,arL,if_neg (by decide),if_neg (by decide),if_neg (by omega)]
def exV (x:JM):V:=if aiv x = true then .tup [.sl 1 (JT (exP x).pB),V.int 0] else .tup [.sl 1 [],V.int 26]
theorem ami (x:JM):(exV x).closed:=by
 unfold exV;split<;>simp only [V.closed,Qd,and_self]
structure JM.Sz (x:JM):Prop where
 a:-9223372036854775808≤x.alg∧x.alg < 9223372036854775808
 b:-9223372036854775808≤x.bits∧x.bits < 9223372036854775808
 e:x.ep.length < 2 ^ 60
theorem aog {x:JM} (h:aiv x = true):x.ep.length≤32∧(1≤x.pur∧x.pur≤4)∧0≤x.fr∧x.fr < x.to∧x.to≤40001∧x.seals.length≤8∧yq none x.seals = true:=by
 simp only [aiv,exA,exD,Qw,zC,kS,zO,zB] at h
 obtain ⟨⟨h1,h2,h3,h4,h5,h6⟩,⟨h7,h8,h9,h10⟩,h11⟩:=h
 exact ⟨by omega,⟨by omega,by omega⟩,by omega,by omega,by omega,by omega,h11⟩
def WQ:=qd Proofs.Tryz.f163 [⟨fun _=>true,[23],zoc 0 29⟩]
def UR (Γ:Env) (f:Nat):Prop:=∀ (x:JM) (hz:x.Sz),EvC Γ f [x.v] (exV x)
theorem abB {Γ:Env} {f:Nat} (h:Has Γ.P f 37 WQ.1.1.ac WQ.1.2) (z0:X9 Γ 49) (z1:ada Γ 220) (z2:aaR Γ 221) (z3:afq Γ 219) (z4:xO Γ 218):UR Γ f:=by
 intro x hz
 refine Ql h zsi (ami _) fun C hC hm=>?_
 subst hC
 simp only [WQ,qd,DC.ac]
 have gC:=(z0 x hz.e).b
 rw [ag1] at gC
 rw [exV]
 by_cases hok:aiv x = true
 rotate_left
 ·rw [if_neg hok]
  rw [if_neg hok] at gC
  simp only [JM.v,JM.cells] at *
  exact zg
 rw [if_pos hok]
 rw [if_pos hok] at gC
 obtain ⟨o1,o2,o3,o4,o5,o6,o7⟩:=aog hok
 have g1:=(z1 x.alg hz.a.1 hz.a.2).b
 have g2:=(z1 x.bits hz.b.1 hz.b.2).b
 have g3:=(z1 x.pur (by omega) (by omega)).b
 have g4:=(z2 x.ep (by omega)).b
 have g5:=(z1 x.fr (by omega) (by omega)).b
 have g6:=(z1 x.to (by omega) (by omega)).b
 have s1:=aof o1
 have s2:jP [Wn x.alg,Wn x.bits,Wn x.pur,yj x.ep,Wn x.fr,Wn x.to] < 2 ^ 33:=by
  rw [exP,adZ,Qn.siz] at s1;omega
 have g7:=z3 [Wn x.alg,Wn x.bits,Wn x.pur,yj x.ep,Wn x.fr,Wn x.to] s2
 have g8:=(z4 (exP x) (by omega) (by have:=aj3 o1;omega)).b
 rw [arK o1] at g8
 have hv:exP x = adZ [Wn x.alg,Wn x.bits,Wn x.pur,yj x.ep,Wn x.fr,Wn x.to]:=rfl
 generalize (exP x).pB = p at *
 rw [hv] at g8
 clear s1 s2 hv
 simp only [zy,zw] at g7
 generalize (adZ [Wn x.alg,Wn x.bits,Wn x.pur,yj x.ep,Wn x.fr,Wn x.to]) = res at *
 generalize Wn x.alg = a1 at *
 generalize Wn x.bits = a2 at *
 generalize Wn x.pur = a3 at *
 generalize Wn x.fr = a4 at *
 generalize Wn x.to = a5 at *
 generalize yj x.ep = a6 at *
 obtain ⟨_,_,_,_⟩:=res;obtain ⟨_,_,_,_⟩:=a1;obtain ⟨_,_,_,_⟩:=a2;obtain ⟨_,_,_,_⟩:=a3;obtain ⟨_,_,_,_⟩:=a4;obtain ⟨_,_,_,_⟩:=a5;obtain ⟨_,_,_,_⟩:=a6
 simp only [Qn.v_eq] at *
 simp only [JM.v,JM.cells] at *
 repeat' (first|(refine zsk ?_;intro K' hK)|(refine zrg ?_;intro K' hK)|refine zsp ?_|(refine zsc ?_ ?_<;>intro hc<;>first|exact znh|try simp only [znz] at hc)|simp (maxSteps:=1000000) only [go_sem,V.shutOk0,Ue,V.shut0,qF,ntL,not_false_eq_true,List.getElem?_cons_zero,List.getElem?_cons_succ]|(refine hK _ ?_;clear hK K')|apply zan|(apply alC;(focus first|exact g7))|(apply akr;(focus first|exact g7);(focus first|exact rfl|decide))|((first|apply QJ|apply Jn);(focus first|exact gC|exact g1|exact g2|exact g3|exact g4|exact g5|exact g6|exact g8|exact (z0 _ zsd).b|exact (z1 _ zsd zsd).b|exact (z2 _ zsd).b|exact (z3 _ zsd).b|exact (z4 _ zsd zsd).b))|exact zsq|fail)
 all_goals exact zr
def X2:=qd Proofs.Tryz.f119 []
def VW (Γ:Env) (f:Nat):Prop:=∀ (x:JM) (u:Int×Int) (pur:Int) (hst:List UInt8) (day:Int),EvN Γ f [x.v,QK u,V.int pur,V.str hst,V.int day] (V.bool ((x.alg == u.1 && x.bits == u.2) && (x.pur == pur && (x.ep == hst && (decide (x.fr≤day) && decide (day < x.to))))))
theorem aas {Γ:Env} {f:Nat} (h:Has Γ.P f 41 X2.1.1.ac X2.1.2) :VW Γ f:=by
 intro x u pur hst day
 refine Qa h zsi zcl zcl fun C hC hm=>?_
 subst hC
 simp only [X2,qd,DC.ac]
 simp only [JM.v,JM.cells,QK]
 rcases a1:x.alg == u.1 with _|_<;>rcases a2:x.bits == u.2 with _|_<;>rcases a3:x.pur == pur with _|_<;>rcases a4:x.ep == hst with _|_<;>rcases a5:decide (x.fr≤day) with _|_
 all_goals
  (have zx:=za a1 (za a2 (za a3 (za a4 a5))));exact zg
theorem adh (k:Int):∀ (ks:List Int) (i:Nat),k ∉ ks→K0 false [0] (V.int k) (ks.map V.int) i = some none
 | [],_,_=>rfl
 | e :: r,i,hn=>by
   have h:U6 false [0] (V.int k) (V.int e) = some (k == e):=by simp [U6,JE]
   rw [zy,K0,h]
   have hk:(k == e) = false:=by
    have:k≠e:=fun he=>hn (he ▸ kD)
    simpa using this
   rw [hk]
   exact adh k r (i + 1) fun hm=>hn (kE _ hm)
theorem ang:∀ {l:List (Int×Int)} {p:Option Int},yq p l = true→(∀ q,p = some q→∀ s∈l,q < s.1)∧l.Pairwise (fun a b=>a.1 < b.1)
 | [],_,_=>⟨fun _ _ _ h=>(by simp at h),List.Pairwise.nil⟩
 | s :: r,p,h=>by
   simp only [yq,zC,kS,zB] at h
   obtain ⟨_,_,_,h4,h5⟩:=h
   obtain ⟨g1,g2⟩:=ang h5
   refine ⟨fun q hq t ht=>?_,Zt.2 ⟨fun t ht=>g1 _ rfl t ht,g2⟩⟩
   subst hq
   have hqs:q < s.1:=by simpa using h4
   rcases zo.1 ht with rfl|ht
   ·exact hqs
   ·have:=g1 _ rfl t ht;omega
theorem alN {l:List (Int×Int)} (h:l.Pairwise (fun a b=>a.1 < b.1)) {k:Nat} {s:Int×Int} (hk:l[k]? = some s):s.1 ∉ (l.take k).map Prod.fst:=by
 intro hm
 obtain ⟨t,ht,he⟩:=kO.1 hm
 obtain ⟨j,hj⟩:=ZA.1 ht
 rw [ZN] at hj
 split at hj
 ·rename_i hjk
  obtain ⟨h1,e1⟩:=zj.1 hj
  obtain ⟨h2,e2⟩:=zj.1 hk
  have:=ke.1 h j k h1 h2 hjk
  rw [e1,e2] at this;omega
 ·cases hj
theorem Uh (f:Nat→Nat) (xs:List Int):jg f (xs.map V.int) = xs.map V.int:=QL _ _ (by induction xs with|nil=>trivial|cons x r ih=>exact ⟨trivial,ih⟩)
theorem qJ (n:Nat) (xs:List Int):ltL n (xs.map V.int):=JC _ _ (by induction xs with|nil=>trivial|cons x r ih=>exact ⟨trivial,ih⟩)
def an9 {α:Type} (q:α→Bool) (l:List α) (is:List Nat):Nat:=is.countP fun i=>(l[i]?.map q).getD false
theorem aiQ {α:Type} (q:α→Bool):∀ l:List α,(List.range l.length).countP (fun i=>(l[i]?.map q).getD false) = l.countP q:=by
 intro l
 induction l with
 | nil=>rfl
 | cons x r ih =>
   rw [List.length_cons,List.range_succ_eq_map,List.countP_cons,List.countP_map,List.countP_cons,← ih]
   simp [Function.comp_def]
theorem apT {α:Type} (q:α→Bool) {l:List α} {is:List Nat} (h1:is.Nodup) (h2:∀ a∈is,a < l.length) (h3:∀ a,a < l.length→a∈is):an9 q l is = l.countP q:=by
 have hp:is.Perm (List.range l.length):=(List.perm_ext_iff_of_nodup h1 List.nodup_range).2 fun a=>by
  rw [Zj];exact ⟨h2 a,h3 a⟩
 rw [an9,hp.countP_eq,aiQ]
theorem ak7 {α:Type} (q:α→Bool) {l:List α} (is:List Nat) {a:Nat} {s:α} (h:l[a]? = some s):an9 q l (is++[a]) = if q s = true then an9 q l is + 1 else an9 q l is:=by
 rw [an9,List.countP_append,List.countP_singleton,h]
 by_cases hq:q s = true
 ·rw [if_pos hq,Option.map_some,Option.getD_some,if_pos hq];rfl
 ·rw [if_neg hq,Option.map_some,Option.getD_some,if_neg hq];rfl
theorem arB {α:Type} (q:α→Bool) (l:List α) (is:List Nat):an9 q l is≤is.length:=List.countP_le_length
def apY (x:JM) (keys:List Int) (s:Int×Int):Bool:=s.2 == ace (exP x).pB && decide (Wd s.1 0 keys≥0)
def aeS (x:JM) (keys:List Int) (need:Int):Bool:=aiv x && (!decide (need < 1) && decide (((x.seals.countP (apY x keys):Nat):Int)≥need))
def vS1 (l:List (Int×Int)) (p:List UInt8) (keys:List Int) (need:Int) (k:Nat):St:=Yh [(3,.ptr 0 0),(5,.sl 1 (JT p)),(7,.mp 1),(27,.sl 2 (l.map QK)),(28,V.int l.length),(29,V.int k)] [(0,.box true [.sl 1 (keys.map V.int),V.int need]),(1,.map (((l.take k).map Prod.fst).map V.int) (((l.take k).map Prod.snd).map V.int) 0)] 2
def vS2 (l:List (Int×Int)) (p:List UInt8) (keys:List Int) (need:Int) (q:Int×Int→Bool) (is:List Nat):St:=Yh [(3,.ptr 0 0),(5,.sl 1 (JT p)),(10,V.int (an9 q l is:Nat)),(40,.ptr 2 0)] [(0,.box true [.sl 1 (keys.map V.int),V.int need]),(1,.map ((l.map Prod.fst).map V.int) ((l.map Prod.snd).map V.int) 0),(2,.iter 1 l.length is l.length)] 3
def WO:=qd Proofs.Tryz.f120 []
def UQ (Γ:Env) (f:Nat):Prop:=∀ (x:JM) (keys:List Int) (need:Int) (hz:x.Sz) (hk:keys.length < 2 ^ 62),EvN Γ f [x.v,.agg [.sl 1 (keys.map V.int),V.int need]] (V.bool (aeS x keys need))
theorem abz {Γ:Env} {f:Nat} (h:Has Γ.P f 62 WO.1.1.ac WO.1.2) (z0:UR Γ 163) (z1:UV Γ 164) (z2:Q6 Γ 74):UQ Γ f:=by
 intro x keys need hz hk
 refine Qa h zsi zcl zcl fun C hC hm=>?_
 subst hC
 simp only [WO,qd,DC.ac]
 have gB:=(z0 x hz).b
 rw [exV] at gB
 by_cases hok:aiv x = true
 rotate_left
 ·rw [if_neg hok] at gB
  have hv:aeS x keys need = false:=by rw [aeS,ZD.2 hok];rfl
  rw [hv]
  simp only [JM.v,JM.cells] at *
  repeat' (first|(refine zsk ?_;intro K' hK)|refine zsp ?_|(refine zsc ?_ ?_<;>intro hc<;>first|exact znh|try simp only [znz] at hc)|simp (maxSteps:=1000000) only [go_sem]|(refine hK _ ?_;clear hK K')|apply zan|(apply QJ;(focus first|exact gB|exact (z0 _ zsd).b|exact (z1 _ zsd).b|exact (z2 _ _ zsd).b))|exact zsq|fail)
  all_goals exact zr
 rw [if_pos hok] at gB
 have hv:aeS x keys need = (!decide (need < 1) && decide (((x.seals.countP (apY x keys):Nat):Int)≥need)):=by rw [aeS,hok];rfl
 rw [hv]
 rcases d1:decide (need < 1) with _|_
 rotate_left
 ·simp only [JM.v,JM.cells] at *
  repeat' (first|(refine zsk ?_;intro K' hK)|refine zsp ?_|(refine zsc ?_ ?_<;>intro hc<;>first|exact znh|try simp only [znz] at hc)|simp (maxSteps:=1000000) only [go_sem,d1]|(refine hK _ ?_;clear hK K')|apply zan|(apply QJ;(focus first|exact gB|exact (z0 _ zsd).b|exact (z1 _ zsd).b|exact (z2 _ _ zsd).b))|exact zsq|fail)
  all_goals exact zr
 obtain ⟨o1,o2,o3,o4,o5,o6,o7⟩:=aog hok
 have hpw:=(ang o7).2
 have hpl:=aj3 o1
 simp only [JM.v,JM.cells] at *
 have hq:apY x keys = fun s=>s.2 == ace (exP x).pB && decide (Wd s.1 0 keys≥0):=rfl
 generalize apY x keys = q at *
 generalize (exP x).pB = p at *
 generalize hl:x.seals = l at *
 have hlm:(l.map QK).length = l.length:=zb _
 simp only [ku,zP]
 repeat' (first|(refine zsk ?_;intro K' hK)|refine zsp ?_|(refine zsc ?_ ?_<;>intro hc<;>first|exact znh|try simp only [znz] at hc)|simp (maxSteps:=1000000) only [go_sem,d1,hlm]|(refine hK _ ?_;clear hK K')|apply zan|(apply QJ;(focus first|exact gB|exact (z0 _ zsd).b|exact (z1 _ zsd).b|exact (z2 _ _ zsd).b))|exact zsq|fail)
 refine Qs (ι:=Nat) (fun k=>k≤l.length) (fun k=>vS1 l p keys need k) (fun k=>l.length - k) 0 (zA _) (Qf [(0,1000),(1,17000)]) (Qo [(0,1000),(1,17000)] (by simp only [go_sem,zwl,vS1,hlm]<;>exact zcc) (by simp only [go_sem,zwl,vS1,List.take_zero,zw]<;>exact zcc) (by simp [vS1,Qf]) (by simp [vS1];omega) (by omega)) fun k hk2 K' hL=>?_
 rcases hd:l.drop k with _|⟨y,r⟩
 ·have hkl:=Qr hd
  have e1:decide ((k:Int) < ((l.length:Nat):Int)) = false:=by simp;omega
  obtain rfl:k = l.length:=by omega
  clear hL
  simp only [vS1,zN]
  have hkl1:((l.map Prod.fst).map V.int).length = l.length:=by simp
  have hkl2:(l.map Prod.fst).length = l.length:=by simp
  repeat' (first|(refine zsk ?_;intro K' hK)|refine zsp ?_|(refine zsc ?_ ?_<;>intro hc<;>first|exact znh|try simp only [znz] at hc)|simp (maxSteps:=1000000) only [go_sem,Yh,hlm,e1,hkl1,hkl2,zb,zT]|(refine hK _ ?_;clear hK K')|apply zan|(apply QJ;(focus first|exact (z0 _ zsd).b|exact (z1 _ zsd).b|exact (z2 _ _ zsd).b))|exact zsq|fail)
  have hv0:an9 q l [] = 0:=rfl
  have gS:=(z1 p (by omega)).b
  refine Qs (ι:=List Nat) (fun is=>is.Nodup∧∀ a∈is,a < l.length) (fun is=>vS2 l p keys need q is) (fun is=>l.length - is.length) [] ⟨ki,by simp⟩ (Qf [(2,3002)]) (Qo [(2,3002)] (by simp only [go_sem,zwl,vS2,hv0]<;>exact zcc) (by simp only [go_sem,zwl,vS2,Uh,qJ]<;>exact zcc) (by simp [vS2,Qf]) (by simp [vS2];omega) (by omega)) fun is his K' hL=>?_
  obtain ⟨his1,his2⟩:=his
  have hln:∀ js:List Nat,js.Nodup→(∀ a∈js,a < l.length)→js.length≤l.length:=fun js h1 h2=>by
   have:=List.Nodup.length_le_of_subset h1 (fun a ha=>Zj.2 (h2 a ha))
   rwa [Zp] at this
  have hvl:=arB q l is
  have hil:=hln is his1 his2
  rcases hun:aaX 0 l.length is with _|⟨u,us⟩
  ·have hall:∀ a,a < l.length→a∈is:=fun a ha=>by
    by_cases hin:a∈is
    ·exact hin
    ·have:a∈aaX 0 l.length is:=qA.2 ⟨ha,by rwa [zT]⟩
     rw [hun] at this;cases this
   have hcn:=apT q his1 his2 hall
   clear hL
   simp only [vS2,hcn]
   repeat' (first|(refine zsk ?_;intro K' hK)|refine zsp ?_|(refine zsc ?_ ?_<;>intro hc<;>first|exact znh|try simp only [znz] at hc)|simp (maxSteps:=1000000) only [go_sem,Yh,hkl1,hkl2,zb,zT,hun]|(refine hK _ ?_;clear hK K')|apply zan|(apply QJ;(focus first|exact (z0 _ zsd).b|exact (z1 _ zsd).b|exact (z2 _ _ zsd).b))|exact zsq|fail)
   all_goals exact zr
  have hU:∀ x,x∈u :: us→x < l.length∧x ∉ is∧∃ s,l[x]? = some s:=fun x hx=>by
   have h1:=qA.1 (hun ▸ hx)
   rw [zT] at h1
   exact ⟨h1.1,h1.2,_,zd h1.1⟩
  simp only [vS2]
  repeat' (first|(refine zsk ?_;intro K' hK)|refine zsp ?_|(refine zsc ?_ ?_<;>intro hc<;>first|exact znh|try simp only [znz] at hc)|simp (maxSteps:=1000000) only [go_sem,Yh,hkl1,hkl2,zb,zT,hun]|(refine hK _ ?_;clear hK K')|apply zan|(apply QJ;(focus first|exact (z0 _ zsd).b|exact (z1 _ zsd).b|exact (z2 _ _ zsd).b))|exact zsq|fail)
  ·obtain ⟨x,hx0⟩:∃ x,x = u:=⟨u,rfl⟩
   have hx:x∈u :: us:=hx0 ▸ kD
   rw [← hx0]
   obtain ⟨hx1,hx2,⟨yk,ys⟩,hsx⟩:=hU x hx
   have vk:((l.map Prod.fst).map V.int)[x]? = some (V.int yk):=by rw [zk,zk,hsx];rfl
   have vv:((l.map Prod.snd).map V.int)[x]? = some (V.int ys):=by rw [zk,zk,hsx];rfl
   have gT:=(z2 keys yk hk).b
   have hap:=ak7 q is hsx
   have hnd:(is++[x]).Nodup:=by rw [kM];exact ⟨his1,by simp,fun a ha b hb=>by rw [zu.1 hb];exact fun he=>hx2 (he ▸ ha)⟩
   have hbd:∀ a∈is++[x],a < l.length:=fun a ha=>by
    rcases zU.1 ha with h|h
    ·exact his2 a h
    ·rw [zu.1 h];exact hx1
   have hln2:=hln _ hnd hbd
   rw [zn,List.length_singleton] at hln2
   have hms:l.length - (is++[x]).length < l.length - is.length:=by rw [zn,List.length_singleton];omega
   have hqv:q (yk,ys) = (ys == ace p && decide (Wd yk 0 keys≥0)):=by rw [hq]
   rw [hqv] at hap
   rcases c1:ys == ace p with _|_
   ·rw [c1,zY,if_neg (by decide)] at hap
    repeat' (first|(refine zsk ?_;intro K' hK)|refine zsp ?_|(refine zsc ?_ ?_<;>intro hc<;>first|exact znh|try simp only [znz] at hc)|simp (maxSteps:=1000000) only [go_sem,Yh,hkl1,hkl2,vk,vv,c1,zb,zT,kl,Nat.sub_zero,zA]|(refine hK _ ?_;clear hK K')|apply zan|(apply QJ;(focus first|exact gS|exact (z0 _ zsd).b|exact (z1 _ zsd).b|exact (z2 _ _ zsd).b))|exact zsq|fail)
    all_goals exact hL _ (is++[x]) (Qf []) ⟨hnd,hbd⟩ hms (Qo [] (by simp only [go_sem,zwl,vS2,hap]<;>exact zcc) (by simp only [go_sem,zwl,vS2,Uh,qJ]<;>exact zcc) (by simp [vS2,Qf]) (by simp [vS2]) (by omega))
   rw [c1,zP] at hap
   rcases c2:decide (Wd yk 0 keys≥0) with _|_
   ·rw [c2] at gT
    rw [c2,if_neg (by decide)] at hap
    repeat' (first|(refine zsk ?_;intro K' hK)|refine zsp ?_|(refine zsc ?_ ?_<;>intro hc<;>first|exact znh|try simp only [znz] at hc)|simp (maxSteps:=1000000) only [go_sem,Yh,hkl1,hkl2,vk,vv,c1,zb,zT,kl,Nat.sub_zero,zA]|(refine hK _ ?_;clear hK K')|apply zan|(apply QJ;(focus first|exact gS|exact gT|exact (z0 _ zsd).b|exact (z1 _ zsd).b|exact (z2 _ _ zsd).b))|exact zsq|fail)
    all_goals exact hL _ (is++[x]) (Qf []) ⟨hnd,hbd⟩ hms (Qo [] (by simp only [go_sem,zwl,vS2,hap]<;>exact zcc) (by simp only [go_sem,zwl,vS2,Uh,qJ]<;>exact zcc) (by simp [vS2,Qf]) (by simp [vS2]) (by omega))
   ·rw [c2] at gT
    rw [c2,if_pos rfl] at hap
    have hw:=Qg (k:=an9 q l is) (by omega)
    repeat' (first|(refine zsk ?_;intro K' hK)|refine zsp ?_|(refine zsc ?_ ?_<;>intro hc<;>first|exact znh|try simp only [znz] at hc)|simp (maxSteps:=1000000) only [go_sem,Yh,hkl1,hkl2,vk,vv,c1,hw,zb,zT,kl,Nat.sub_zero,zA]|(refine hK _ ?_;clear hK K')|apply zan|(apply QJ;(focus first|exact gS|exact gT|exact (z0 _ zsd).b|exact (z1 _ zsd).b|exact (z2 _ _ zsd).b))|exact zsq|fail)
    all_goals exact hL _ (is++[x]) (Qf []) ⟨hnd,hbd⟩ hms (Qo [] (by simp only [go_sem,zwl,vS2,hap]<;>exact zcc) (by simp only [go_sem,zwl,vS2,Uh,qJ]<;>exact zcc) (by simp [vS2,Qf]) (by simp [vS2]) (by omega))
  ·intro x hx
   have hx:x∈u :: us:=kE _ hx
   obtain ⟨hx1,hx2,⟨yk,ys⟩,hsx⟩:=hU x hx
   have vk:((l.map Prod.fst).map V.int)[x]? = some (V.int yk):=by rw [zk,zk,hsx];rfl
   have vv:((l.map Prod.snd).map V.int)[x]? = some (V.int ys):=by rw [zk,zk,hsx];rfl
   have gT:=(z2 keys yk hk).b
   have hap:=ak7 q is hsx
   have hnd:(is++[x]).Nodup:=by rw [kM];exact ⟨his1,by simp,fun a ha b hb=>by rw [zu.1 hb];exact fun he=>hx2 (he ▸ ha)⟩
   have hbd:∀ a∈is++[x],a < l.length:=fun a ha=>by
    rcases zU.1 ha with h|h
    ·exact his2 a h
    ·rw [zu.1 h];exact hx1
   have hln2:=hln _ hnd hbd
   rw [zn,List.length_singleton] at hln2
   have hms:l.length - (is++[x]).length < l.length - is.length:=by rw [zn,List.length_singleton];omega
   have hqv:q (yk,ys) = (ys == ace p && decide (Wd yk 0 keys≥0)):=by rw [hq]
   rw [hqv] at hap
   rcases c1:ys == ace p with _|_
   ·rw [c1,zY,if_neg (by decide)] at hap
    repeat' (first|(refine zsk ?_;intro K' hK)|refine zsp ?_|(refine zsc ?_ ?_<;>intro hc<;>first|exact znh|try simp only [znz] at hc)|simp (maxSteps:=1000000) only [go_sem,Yh,hkl1,hkl2,vk,vv,c1,zb,zT,kl,Nat.sub_zero,zA]|(refine hK _ ?_;clear hK K')|apply zan|(apply QJ;(focus first|exact gS|exact (z0 _ zsd).b|exact (z1 _ zsd).b|exact (z2 _ _ zsd).b))|exact zsq|fail)
    all_goals exact hL _ (is++[x]) (Qf []) ⟨hnd,hbd⟩ hms (Qo [] (by simp only [go_sem,zwl,vS2,hap]<;>exact zcc) (by simp only [go_sem,zwl,vS2,Uh,qJ]<;>exact zcc) (by simp [vS2,Qf]) (by simp [vS2]) (by omega))
   rw [c1,zP] at hap
   rcases c2:decide (Wd yk 0 keys≥0) with _|_
   ·rw [c2] at gT
    rw [c2,if_neg (by decide)] at hap
    repeat' (first|(refine zsk ?_;intro K' hK)|refine zsp ?_|(refine zsc ?_ ?_<;>intro hc<;>first|exact znh|try simp only [znz] at hc)|simp (maxSteps:=1000000) only [go_sem,Yh,hkl1,hkl2,vk,vv,c1,zb,zT,kl,Nat.sub_zero,zA]|(refine hK _ ?_;clear hK K')|apply zan|(apply QJ;(focus first|exact gS|exact gT|exact (z0 _ zsd).b|exact (z1 _ zsd).b|exact (z2 _ _ zsd).b))|exact zsq|fail)
    all_goals exact hL _ (is++[x]) (Qf []) ⟨hnd,hbd⟩ hms (Qo [] (by simp only [go_sem,zwl,vS2,hap]<;>exact zcc) (by simp only [go_sem,zwl,vS2,Uh,qJ]<;>exact zcc) (by simp [vS2,Qf]) (by simp [vS2]) (by omega))
   ·rw [c2] at gT
    rw [c2,if_pos rfl] at hap
    have hw:=Qg (k:=an9 q l is) (by omega)
    repeat' (first|(refine zsk ?_;intro K' hK)|refine zsp ?_|(refine zsc ?_ ?_<;>intro hc<;>first|exact znh|try simp only [znz] at hc)|simp (maxSteps:=1000000) only [go_sem,Yh,hkl1,hkl2,vk,vv,c1,hw,zb,zT,kl,Nat.sub_zero,zA]|(refine hK _ ?_;clear hK K')|apply zan|(apply QJ;(focus first|exact gS|exact gT|exact (z0 _ zsd).b|exact (z1 _ zsd).b|exact (z2 _ _ zsd).b))|exact zsq|fail)
    all_goals exact hL _ (is++[x]) (Qf []) ⟨hnd,hbd⟩ hms (Qo [] (by simp only [go_sem,zwl,vS2,hap]<;>exact zcc) (by simp only [go_sem,zwl,vS2,Uh,qJ]<;>exact zcc) (by simp [vS2,Qf]) (by simp [vS2]) (by omega))
 ·obtain ⟨hk',hget,hr⟩:=Qk hd
  have hw:=Qg (k:=k) (by omega)
  have e1:decide ((k:Int) < ((l.length:Nat):Int)) = true:=by simp;omega
  have hfr:=adh y.1 _ 0 (alN hpw hget)
  have t1:l.take (k + 1) = l.take k++[y]:=by rw [zJ,hget];rfl
  have hek:U6 false [0] (V.int y.1) (V.int y.1) = some true:=by simp [U6,JE]
  obtain ⟨yk,ys⟩:=y
  have f1:((l.take k).map Prod.fst).map V.int++[V.int yk] = ((l.take (k + 1)).map Prod.fst).map V.int:=by rw [t1];simp
  have f2:((l.take k).map Prod.snd).map V.int++[V.int ys] = ((l.take (k + 1)).map Prod.snd).map V.int:=by rw [t1];simp
  simp only [vS1] at *
  repeat' (first|(refine zsk ?_;intro K' hK)|refine zsp ?_|(refine zsc ?_ ?_<;>intro hc<;>first|exact znh|try simp only [znz] at hc)|simp (maxSteps:=1000000) only [go_sem,Yh,hlm,e1,hw,Int.toNat_natCast,zk,hget,QK,hfr,hek]|(refine hK _ ?_;clear hK K')|apply zan|(apply QJ;(focus first|exact (z0 _ zsd).b|exact (z1 _ zsd).b|exact (z2 _ _ zsd).b))|exact zsq|fail)
  all_goals exact hL _ (k + 1) (Qf []) hk' (by omega) (Qo [] (by simp only [go_sem,zwl,vS1]<;>exact zcc) (by simp only [go_sem,zwl,vS1,f1,f2,Uh,qJ]<;>exact zcc) (by simp [vS1,Qf]) (by simp [vS1]) (by omega))
def Qz:=qd Proofs.Tryz.f81 []
def QV (Γ:Env) (f:Nat):Prop:=∀ (xs:List JM) (g:Nat) (cap:List V) (p:JM→Bool) (hp:∀ x∈xs,EvN Γ g (JM.v x :: cap) (V.bool (p x))) (hcap:Qd cap) (hl:xs.length < 2 ^ 62),EvN Γ f [.sl 7 (xs.map JM.v),.clo g cap] (V.int (UX p 0 xs))
attribute [local go_sem] JM.cells JM.v in
theorem YD {Γ:Env} {f:Nat} (h:Has Γ.P f 19 Qz.1.1.ac Qz.1.2) :QV Γ f:=by
 intro xs g cap p hp hcap hl
 refine Qa h zsi zcl zcl fun C hC hm=>?_
 subst hC
 simp only [Qz,qd,DC.ac]
 have s1:∀ o,JD o cap = cap:=fun o=>QC o cap hcap
 have s2:∀ o B,Qp o B cap = True:=fun o B=>eq_true (Qq o B cap hcap)
 refine zgo ?_;repeat' first|exact zt|apply zan|intro hc
 refine Jg (ι:=Nat) (fun k=>k≤xs.length∧UX p k (xs.drop k) = UX p 0 xs) (fun k=>[(8,V.int k)]) (fun k=>xs.length - k) 0 (by omega) ⟨by simp,by simp⟩ zol (fun i hi=>by simp only [ovT,Yr,Nat.reduceEqDiff,reduceIte];(repeat' first|exact jT|refine Kn ?_ ?_|simp only [V.lt,ltL,and_self,and_true]|omega);exact JC _ _ hcap) (by simp only [Nat.reduceAdd,ovT,Yr,Nat.reduceEqDiff,reduceIte,Ui,qP,amQ,u32,u33,u34,u35,u36,u37,u38,u39,and_self,and_true,true_and];first|rfl|exact QL _ _ hcap) fun k hk K' hL=>?_
 obtain ⟨hk,hinv⟩:=hk
 simp only [ovT,Yr,Nat.reduceEqDiff,reduceIte]
 rcases hd:xs.drop k with _|⟨y,r⟩
 ·have:=Qr hd
  rw [hd] at hinv
  have e1:decide ((k:Int) < (((xs.map JM.v).length:Nat):Int)) = false:=by simp;omega
  (have zx:=e1);refine zgo ?_;repeat' first|exact zt|apply zan|intro hc
  refine Qi _ rfl ?_
  simp only [go_sem]
  rw [← hinv];rfl
 ·obtain ⟨hk,hget,hr⟩:=Qk hd
  rw [hd] at hinv
  have hw:=Qg (k:=k) (by omega)
  have e1:decide ((k:Int) < (((xs.map JM.v).length:Nat):Int)) = true:=by simp;omega
  have hpy:=hp y (zq hget)
  simp only [JM.v,JM.cells] at hpy
  by_cases hy:p y = true
  ·rw [hy] at hpy
   (have zy0:=hpy.b;have zx:=za hget (za hw (za e1 (za s1 s2))));refine zgo ?_;repeat' first|exact zt|apply zan|intro hc
   refine Qi _ rfl ?_;simp only [go_sem]
   rw [← hinv];simp [UX,hy]
  ·have hy':p y = false:=by simpa using hy
   rw [hy'] at hpy
   (have zy0:=hpy.b;have zx:=za hget (za hw (za e1 (za s1 s2))));refine zgo ?_;repeat' first|exact zt|apply zan|intro hc
   refine hL _ (k + 1) zet ⟨by omega,?_⟩ (by omega) zoe
   rw [hr,← hinv,UX,if_neg hy]
def Qx:=qd Proofs.Tryz.f47 []
def Qt (Γ:Env) (f:Nat):Prop:=∀ (xs:List JM) (g:Nat) (cap:List V) (p:JM→Bool) (hp:∀ x∈xs,EvN Γ g (JM.v x :: cap) (V.bool (p x))) (hcap:Qd cap) (hl:xs.length < 2 ^ 62),EvN Γ f [.sl 7 (xs.map JM.v),.clo g cap] (V.bool (xs.any p))
theorem Ys {Γ:Env} {f:Nat} (h:Has Γ.P f 9 Qx.1.1.ac Qx.1.2) (z0:QV Γ 81):Qt Γ f:=by
 intro xs g cap p hp hcap hl
 refine Qa h zsi zcl zcl fun C hC hm=>?_
 subst hC
 simp only [Qx,qd,DC.ac]
 have s1:∀ o,JD o cap = cap:=fun o=>QC o cap hcap
 have s2:∀ o B,Qp o B cap = True:=fun o B=>eq_true (Qq o B cap hcap)
 have hi:=(z0 xs g cap p hp hcap hl).b
 have e1:=jt p xs 0
 (have zx:=za s1 (za s2 e1));exact zg
def srC (gap day age alg:Int) (xs:List JM) (keys:List Int) (need:Int) (lv:V):List V:=[V.int gap,V.int day,V.int age,V.int alg,.sl 7 (xs.map JM.v),.sl 1 (keys.map V.int),V.int need,lv]
def ap8 (x:JM) (u:Int×Int) (host:List UInt8) (day:Int):Bool:=(x.alg == u.1 && x.bits == u.2) && (x.pur == 1 && (x.ep == host && (decide (x.fr≤day) && decide (day < x.to))))
def agA (any:Bool) (u:Int×Int) (x:JM):Int×Int:=if (any && (u.2 == 0 && x.alg == u.1)) = true then (x.alg,x.bits) else u
def adu (any:Bool) (u:Int×Int) (hosts:List (List UInt8)) (day:Int) (keys:List Int) (need:Int) (x:JM):Bool:=aeS x keys need && hosts.any fun h=>ap8 x (agA any u x) h day
def JL:=qd Proofs.Tryz.f118 []
def Yk (Γ:Env) (f:Nat):Prop:=∀ (host:List UInt8) (x:JM) (u:Int×Int) (gap day age alg:Int) (xs:List JM) (keys:List Int) (need:Int) (lv:V),EvN Γ f [V.str host,.ro x.cells 0,.ro [V.int u.1,V.int u.2] 0,.ro (srC gap day age alg xs keys need lv) 0] (V.bool (ap8 x u host day))
theorem KQ {Γ:Env} {f:Nat} (h:Has Γ.P f 13 JL.1.1.ac JL.1.2) (z0:VW Γ 119):Yk Γ f:=by
 intro host x u gap day age alg xs keys need lv
 refine Qa h zsi zcl zcl fun C hC hm=>?_
 subst hC
 simp only [JL,qd,DC.ac]
 have g:=(z0 x u 1 host day).b
 simp only [JM.v,JM.cells,QK,srC,ap8] at *
 exact zg
def Jk:=qd Proofs.Tryz.f165 []
def JI (Γ:Env) (f:Nat):Prop:=∀ (xs:List (List UInt8)) (g:Nat) (cap:List V) (p:(List UInt8)→Bool) (hp:∀ x∈xs,EvN Γ g (V.str x :: cap) (V.bool (p x))) (hcap:Qd cap) (hl:xs.length < 2 ^ 62),EvN Γ f [.sl 1 (xs.map V.str),.clo g cap] (V.int (UX p 0 xs))
attribute [local go_sem] zw in
theorem VJ {Γ:Env} {f:Nat} (h:Has Γ.P f 19 Jk.1.1.ac Jk.1.2) :JI Γ f:=by
 intro xs g cap p hp hcap hl
 refine Qa h zsi zcl zcl fun C hC hm=>?_
 subst hC
 simp only [Jk,qd,DC.ac]
 have s1:∀ o,JD o cap = cap:=fun o=>QC o cap hcap
 have s2:∀ o B,Qp o B cap = True:=fun o B=>eq_true (Qq o B cap hcap)
 refine zgo ?_;repeat' first|exact zt|apply zan|intro hc
 refine Jg (ι:=Nat) (fun k=>k≤xs.length∧UX p k (xs.drop k) = UX p 0 xs) (fun k=>[(8,V.int k)]) (fun k=>xs.length - k) 0 (by omega) ⟨by simp,by simp⟩ zol (fun i hi=>by simp only [ovT,Yr,Nat.reduceEqDiff,reduceIte];(repeat' first|exact jT|refine Kn ?_ ?_|simp only [V.lt,ltL,and_self,and_true]|omega);exact JC _ _ hcap) (by simp only [Nat.reduceAdd,ovT,Yr,Nat.reduceEqDiff,reduceIte,Ui,qP,amQ,u32,u33,u34,u35,u36,u37,u38,u39,and_self,and_true,true_and];first|rfl|exact QL _ _ hcap) fun k hk K' hL=>?_
 obtain ⟨hk,hinv⟩:=hk
 simp only [ovT,Yr,Nat.reduceEqDiff,reduceIte]
 rcases hd:xs.drop k with _|⟨y,r⟩
 ·have:=Qr hd
  rw [hd] at hinv
  have e1:decide ((k:Int) < (((xs.map V.str).length:Nat):Int)) = false:=by simp;omega
  (have zx:=e1);refine zgo ?_;repeat' first|exact zt|apply zan|intro hc
  refine Qi _ rfl ?_
  simp only [go_sem]
  rw [← hinv];rfl
 ·obtain ⟨hk,hget,hr⟩:=Qk hd
  rw [hd] at hinv
  have hw:=Qg (k:=k) (by omega)
  have e1:decide ((k:Int) < (((xs.map V.str).length:Nat):Int)) = true:=by simp;omega
  have hpy:=hp y (zq hget)
  by_cases hy:p y = true
  ·rw [hy] at hpy
   (have zy0:=hpy.b;have zx:=za hget (za hw (za e1 (za s1 s2))));refine zgo ?_;repeat' first|exact zt|apply zan|intro hc
   refine Qi _ rfl ?_;simp only [go_sem]
   rw [← hinv];simp [UX,hy]
  ·have hy':p y = false:=by simpa using hy
   rw [hy'] at hpy
   (have zy0:=hpy.b;have zx:=za hget (za hw (za e1 (za s1 s2))));refine zgo ?_;repeat' first|exact zt|apply zan|intro hc
   refine hL _ (k + 1) zet ⟨by omega,?_⟩ (by omega) zoe
   rw [hr,← hinv,UX,if_neg hy]
def Q7:=qd Proofs.Tryz.f121 []
def Jx (Γ:Env) (f:Nat):Prop:=∀ (xs:List (List UInt8)) (g:Nat) (cap:List V) (p:(List UInt8)→Bool) (hp:∀ x∈xs,EvN Γ g (V.str x :: cap) (V.bool (p x))) (hcap:Qd cap) (hl:xs.length < 2 ^ 62),EvN Γ f [.sl 1 (xs.map V.str),.clo g cap] (V.bool (xs.any p))
theorem Wq {Γ:Env} {f:Nat} (h:Has Γ.P f 9 Q7.1.1.ac Q7.1.2) (z0:JI Γ 165):Jx Γ f:=by
 intro xs g cap p hp hcap hl
 refine Qa h zsi zcl zcl fun C hC hm=>?_
 subst hC
 simp only [Q7,qd,DC.ac]
 have s1:∀ o,JD o cap = cap:=fun o=>QC o cap hcap
 have s2:∀ o B,Qp o B cap = True:=fun o B=>eq_true (Qq o B cap hcap)
 have hi:=(z0 xs g cap p hp hcap hl).b
 have e1:=jt p xs 0
 (have zx:=za s1 (za s2 e1));exact zg
def J0:=qd Proofs.Tryz.f117 []
def Yy (Γ:Env) (f:Nat):Prop:=∀ (x:JM) (u:Int×Int) (any:Bool) (gap day age alg:Int) (xs:List JM) (keys:List Int) (need:Int) (lv:V) (hlv:lv.closed) (hosts:List (List UInt8)) (hz:x.Sz) (hk:keys.length < 2 ^ 62) (hh:hosts.length < 2 ^ 62),EvN Γ f [x.v,.ro [V.int u.1,V.int u.2] 0,.ro [V.bool any] 0,.ro (srC gap day age alg xs keys need lv) 0,.ro [.sl 1 (hosts.map V.str)] 0] (V.bool (adu any u hosts day keys need x))
theorem qN {Γ:Env} {f:Nat} (h:Has Γ.P f 37 J0.1.1.ac J0.1.2) (z0:Yk Γ 118) (z1:UQ Γ 120) (z2:Jx Γ 121):Yy Γ f:=by
 intro x u any gap day age alg xs keys need lv hlv hosts hz hk hh
 refine Qa h zsi zcl zcl fun C hC hm=>?_
 subst hC
 simp only [J0,qd,DC.ac]
 have gV:=(z1 x keys need hz hk).b
 have h1:=fun (v:Int×Int) (y:List UInt8)=>z0 y x v gap day age alg xs keys need lv
 have hC:=fun v:Int×Int=>z2 hosts 118 [.ro x.cells 0,.ro [V.int v.1,V.int v.2] 0,.ro (srC gap day age alg xs keys need lv) 0] (fun y=>ap8 x v y day) (fun y _=>h1 v y) (by simp [V.closed,Qd,JM.cells,srC,hlv]) hh
 have hp:adu any u hosts day keys need x = (aeS x keys need && hosts.any fun h=>ap8 x (agA any u x) h day):=rfl
 rw [hp]
 rcases any with _|_
 ·have hw:agA false u x = u:=rfl
  rw [hw]
  have g:=(hC u).b
  generalize (hosts.any fun h=>ap8 x u h day) = r at *
  rcases hv:aeS x keys need with _|_
  ·rw [hv] at gV
   simp only [JM.v,JM.cells,srC] at *
   (have zx:=hw);exact zg
  ·rw [hv] at gV
   simp only [JM.v,JM.cells,srC] at *
   (have zx:=hw);exact zg
 rcases a2:u.2 == 0 with _|_
 ·have hw:agA true u x = u:=by rw [agA,a2];rfl
  rw [hw]
  have g:=(hC u).b
  generalize (hosts.any fun h=>ap8 x u h day) = r at *
  rcases hv:aeS x keys need with _|_
  ·rw [hv] at gV
   simp only [JM.v,JM.cells,srC] at *
   (have zx:=a2);exact zg
  ·rw [hv] at gV
   simp only [JM.v,JM.cells,srC] at *
   (have zx:=a2);exact zg
 rcases a3:x.alg == u.1 with _|_
 ·have hw:agA true u x = u:=by rw [agA,a2,a3];rfl
  rw [hw]
  have g:=(hC u).b
  generalize (hosts.any fun h=>ap8 x u h day) = r at *
  rcases hv:aeS x keys need with _|_
  ·rw [hv] at gV
   simp only [JM.v,JM.cells,srC] at *
   (have zx:=za a2 a3);exact zg
  ·rw [hv] at gV
   simp only [JM.v,JM.cells,srC] at *
   (have zx:=za a2 a3);exact zg
 have hw:agA true u x = (x.alg,x.bits):=by rw [agA,a2,a3];rfl
 rw [hw]
 have g:=(hC (x.alg,x.bits)).b
 generalize (hosts.any fun h=>ap8 x (x.alg,x.bits) h day) = r at *
 rcases hv:aeS x keys need with _|_
 ·rw [hv] at gV
  simp only [JM.v,JM.cells,srC] at *
  (have zx:=za a2 a3);exact zg
 ·rw [hv] at gV
  simp only [JM.v,JM.cells,srC] at *
  (have zx:=za a2 a3);exact zg
def Yd:=qd Proofs.Tryz.f86 []
def YV (Γ:Env) (f:Nat):Prop:=∀ (u:Int×Int) (any:Bool) (gap day age alg:Int) (xs:List JM) (keys:List Int) (need:Int) (lv:V) (hlv:lv.closed) (hosts:List (List UInt8)) (hz:∀ x∈xs,x.Sz) (hx:xs.length < 2 ^ 62) (hk:keys.length < 2 ^ 62) (hh:hosts.length < 2 ^ 62),EvN Γ f [.agg (srC gap day age alg xs keys need lv),.agg [V.int u.1,V.int u.2],V.bool any,.sl 1 (hosts.map V.str)] (V.bool (xs.any (adu any u hosts day keys need)))
theorem jZ {Γ:Env} {f:Nat} (h:Has Γ.P f 14 Yd.1.1.ac Yd.1.2) (z0:Yy Γ 117) (z1:Qt Γ 47):YV Γ f:=by
 intro u any gap day age alg xs keys need lv hlv hosts hz hx hk hh
 refine Qa h zsi zcl zcl fun C hC hm=>?_
 subst hC
 simp only [Yd,qd,DC.ac]
 have g:=(z1 xs 117 [.ro [V.int u.1,V.int u.2] 0,.ro [V.bool any] 0,.ro (srC gap day age alg xs keys need lv) 0,.ro [.sl 1 (hosts.map V.str)] 0] (adu any u hosts day keys need) (fun x hm=>z0 x u any gap day age alg xs keys need lv hlv hosts (hz x hm) hk hh) (by simp [V.closed,Qd,srC,hlv]) hx).b
 simp only [srC] at *
 exact zg
end Av
end
