/- K22 -/
import Derived.Test.YtjobognfgjobfaaGreatDoorK21
import Derived.Test.YtjobognfgjobfaaGreatDoorK19
import Derived.Test.YtjobognfgjobfaaGreatDoorK12
set_option linter.unusedVariables false
set_option linter.unusedSimpArgs false
noncomputable section
set_option maxRecDepth 10000
set_option maxHeartbeats 4000000
namespace Av
open Go
attribute [local irreducible] AWp WC wb aai awS awC aeM awQ afz Jk qV aes awR jj awB okR aaf ris
def aw1 (c:UInt8) (o:List UInt8):Bool:=(decide ((c.toNat:Int)≥97) && decide ((c.toNat:Int)≤122)) || ((decide ((c.toNat:Int)≥65) && decide ((c.toNat:Int)≤90)) || ((decide ((c.toNat:Int)≥48) && decide ((c.toNat:Int)≤57)) || decide (Lib.indexByte o c≥0)))
def ahl (s:List UInt8):Bool:=s.all (fun c=>aw1 c [45,95,46]) && (decide ((s.length:Int)≥1) && decide ((s.length:Int)≤32))
def ap7 (s:List UInt8):Bool:=match Lib.atoiAll s with|.ok _=>decide (yo s≥0) && (Lib.itoa (yo s) == s)|_=>false
theorem asR (w:List UInt8):-9223372036854775808≤yo w∧yo w≤9223372036854775807:=by
 unfold yo
 split
 ·rename_i v h
  unfold Lib.atoiAll at h
  split at h
  ·exact absurd h (by simp)
  ·dsimp only at h
   split at h
   ·exact absurd h (by simp)
   ·exact absurd h (by simp)
   ·rename_i u _
    split at h
    ·exact absurd h (by simp)
    ·split at h
     ·exact absurd h (by simp)
     ·rename_i h1 h2
      injection h with h
      subst h
      split<;>rename_i h3<;>simp only [h3,not_true_eq_false,not_false_eq_true,true_and,false_and] at h1 h2<;>omega
 ·unfold Lib.atoiSat;split<;>omega
 ·omega
def VL:=qd Proofs.Tryz.f170 []
def qm (Γ:Env) (f:Nat):Prop:=∀ (c:UInt8) (o:List UInt8),EvN Γ f [.sc (.int .u8 c.toNat),V.str o] (V.bool (aw1 c o))
theorem adV {Γ:Env} {f:Nat} (h:Has Γ.P f 33 VL.1.1.ac VL.1.2) (z0:Un Γ 227):qm Γ f:=by
 intro c o
 refine Qc h zsi zcl zcl fun C hC hm=>?_
 subst hC
 simp only [VL,qd,DC.ac]
 refine zgo ?_;repeat' first|exact zt|apply zan|intro hc
 all_goals (refine Qg _ rfl ?_;simp only [go_sem];simp [aw1, *];done)
def KF:=qd Proofs.Tryz.f87 []
def XD (Γ:Env) (f:Nat):Prop:=∀ (s:List UInt8) (hs:s.length < 2 ^ 30),EvN Γ f [V.str s] (V.bool (ahl s))
attribute [local go_sem] QS in
theorem agA {Γ:Env} {f:Nat} (h:Has Γ.P f 24 KF.1.1.ac KF.1.2) (z0:qm Γ 170):XD Γ f:=by
 intro s hs
 refine Qc h zsi zcl zcl fun C hC hm=>?_
 subst hC
 simp only [KF,qd,DC.ac]
 refine zgo ?_;repeat' first|exact zt|apply zan|intro hc
 refine Qj (ι:=Nat) (fun k=>k≤s.length∧(s.take k).all (fun c=>aw1 c [45,95,46]) = true) (fun k=>QS [(0,V.str s),(6,.hd 0 0 s.length),(7,V.int s.length),(8,V.int k)] [(0,.buf false 1 (s.map fun c=>V.sc (.int .u8 c.toNat)))] 1) (fun k=>s.length - k) 0 ⟨by omega,by simp⟩ (Qd [(0,2000)]) (zwg [(0,2000)]) fun k hk K' hL=>?_
 obtain ⟨hk,hinv⟩:=hk
 rcases hd:s.drop k with _|⟨c,r⟩
 ·have hkl:=Qu hd
  rw [zi hkl] at hinv
  have e1:decide ((k:Int) < ((s.length:Nat):Int)) = false:=by simp;omega
  have hw:ahl s = (decide ((s.length:Int)≥1) && decide ((s.length:Int)≤32)):=by rw [ahl,hinv,zO]
  rw [hw]
  (have zx:=e1);refine zgo ?_;repeat' first|exact zt|apply zan|intro hc
  all_goals first|exact zr|(refine Qg _ rfl ?_;simp only [go_sem];simp [*];done)
 ·obtain ⟨hk',hget,hr⟩:=Qq hd
  have hwi:=Qe (k:=k) (by omega)
  have e1:decide ((k:Int) < ((s.length:Nat):Int)) = true:=by simp;omega
  have hl:=(z0 c [45,95,46]).b
  rcases hb:aw1 c [45,95,46] with _|_
  ·have hw:ahl s = false:=by
    have:s.all (fun c=>aw1 c [45,95,46]) = false:=by
     rw [Ze];exact ⟨c,zq hget,by simp [hb]⟩
    rw [ahl,this];rfl
   rw [hb] at hl
   rw [hw]
   (have zx:=za e1 (za hwi hget));exact zg
  ·rw [hb] at hl
   (have zx:=za e1 (za hwi hget));refine zgo ?_;repeat' first|exact zt|apply zan|intro hc
   all_goals exact hL _ (k + 1) (Qd []) ⟨by omega,by rw [zB,hget,bm,hinv];simp [hb]⟩ (by omega) (zwg [])
def W8:=qd Proofs.Tryz.f179 []
def Kb (Γ:Env) (f:Nat):Prop:=∀ (s:List UInt8) (hs:s.length < 2 ^ 30),EvN Γ f [V.str s] (.tup [V.int (yo s),V.bool (ap7 s)])
theorem acQ {Γ:Env} {f:Nat} (h:Has Γ.P f 24 W8.1.1.ac W8.1.2) (z0:xR Γ 234) (z1:abI Γ 235):Kb Γ f:=by
 intro s hs
 refine Qc h zsi (by simp only [V.closed,Qb,V.noSl,Wi,and_self]) (by simp only [V.closed,Qb,V.noSl,Wi,and_self]) fun C hC hm=>?_
 subst hC
 simp only [W8,qd,DC.ac]
 have ga:=(z0 s (by omega)).b
 have hrng:=asR s
 have gi:=(z1 (yo s) hrng.1 hrng.2).b
 by_cases hok:∃ n,Lib.atoiAll s = .ok n
 ·obtain ⟨n,hn⟩:=hok
  have he:aqF s = .sc .nilIface:=by rw [aqF,hn]
  have hd:ap7 s = (decide (yo s≥0) && (Lib.itoa (yo s) == s)):=by rw [ap7,hn]
  rw [he] at ga
  rw [hd]
  refine zgo ?_;repeat' first|exact zt|apply zan|intro hc
  all_goals first|exact zr|(refine Qg _ rfl ?_;simp only [go_sem];simp [*];done)
 ·have he:aqF s = .nn:=by
   rw [aqF];split
   ·rename_i n hn;exact absurd ⟨n,hn⟩ hok
   ·rfl
  have hd:ap7 s = false:=by
   rw [ap7];split
   ·rename_i n hn;exact absurd ⟨n,hn⟩ hok
   ·rfl
  rw [he] at ga
  rw [hd]
  refine zgo ?_;repeat' first|exact zt|apply zan|intro hc
  all_goals first|exact zr|(refine Qg _ rfl ?_;simp only [go_sem];simp [*];done)
structure NR (a:List Int):Prop where
 nd:a.Nodup
 rg:∀ x∈a,1≤x∧x≤16
theorem NR.add {a:List Int} (h:NR a) (l:List Int) (k:Nat):NR (if a.contains (1 + (Qt l k 16).1) = true then a else a++[1 + (Qt l k 16).1]):=by
 have hr:=Qz (l:=l) (k:=k) (n:=16) (by omega) (by omega)
 split
 ·exact h
 ·rename_i hc
  have hx:1 + (Qt l k 16).1 ∉ a:=by simpa using hc
  refine ⟨Zd.2 ⟨h.nd,by simp,fun x hx2 y hy e=>?_⟩,fun x hx2=>?_⟩
  ·simp at hy;subst hy;subst e;exact hx hx2
  ·rcases zP.1 hx2 with h1|h1
   ·exact h.rg x h1
   ·simp at h1;omega
theorem aqw {α:Type} {p:α→Bool} {l r:List α} {k:Nat} {x:α} (h:l.drop k = x :: r):(l.drop k).any p = (p x || (l.drop (k + 1)).any p):=by
 obtain ⟨_,_,hr⟩:=Qq h
 rw [h,List.any_cons,hr]
def yH (c:UInt8):Bool:=decide ((c.toNat:Int)≤32) || decide ((c.toNat:Int) > 126)
def QP (s:List UInt8):Bool:=!s.any yH && (decide ((s.length:Int)≥1) && decide ((s.length:Int)≤32))
def wJ:=qd Proofs.Tryz.f129 []
def aaP (Γ:Env) (f:Nat):Prop:=∀ (s:List UInt8) (hs:s.length < 2 ^ 60),EvN Γ f [V.str s] (V.bool (QP s))
theorem akA {Γ:Env} {f:Nat} (h:Has Γ.P f 28 wJ.1.1.ac wJ.1.2) :aaP Γ f:=by
 intro s hs
 refine Qc h zsi zcl zcl fun C hC hm=>?_
 subst hC
 simp only [wJ,qd,DC.ac]
 by_cases h0:s.length < 1
 ·have e1:decide ((s.length:Int) < 1) = true:=zn (by omega)
  have e2:QP s = false:=by unfold QP;rw [zp (by omega:¬ (s.length:Int)≥1)];simp
  rw [e2]
  (have zx:=e1);exact zg
 have e1:decide ((s.length:Int) < 1) = false:=zp (by omega)
 by_cases h1:s.length > 32
 ·have e3:decide ((s.length:Int) > 32) = true:=zn (by omega)
  have e2:QP s = false:=by unfold QP;rw [zp (by omega:¬ (s.length:Int)≤32)];simp
  rw [e2]
  (have zx:=za e1 e3);exact zg
 have e3:decide ((s.length:Int) > 32) = false:=zp (by omega)
 have e2:QP s = !s.any yH:=by unfold QP;rw [zn (by omega:(s.length:Int)≤32),zn (by omega:(s.length:Int)≥1)];simp
 rw [e2]
 (have zx:=za e1 e3);refine zgo ?_;repeat' first|exact zt|apply zan|intro hc
 refine Ji (ι:=Nat) (fun k=>k≤s.length∧(s.drop k).any yH = s.any yH) (fun k=>[(3,V.int k)]) (fun k=>s.length - k) 0 (by omega) ⟨by simp,by simp⟩ zol zlt zet fun k hk K' hL=>?_
 obtain ⟨hk,hinv⟩:=hk
 simp only [ovT,Xs,Nat.reduceEqDiff,reduceIte]
 rcases hd:s.drop k with _|⟨c,r⟩
 ·have:=Qu hd
  rw [hd] at hinv
  have e4:decide ((k:Int) < ((s.length:Nat):Int)) = false:=by simp;omega
  rw [← hinv]
  (have zx:=e4);refine zgo ?_;repeat' first|exact zt|apply zan|intro hc
  all_goals first|exact zr|(refine Qg _ rfl ?_;simp only [go_sem];simp;done)
 ·obtain ⟨hk',hget,hr⟩:=Qq hd
  have hst:=aqw (p:=yH) hd
  rw [hinv] at hst
  have hw:=Qe (k:=k) (by omega)
  have e4:decide ((k:Int) < ((s.length:Nat):Int)) = true:=by simp;omega
  have e5:decide ((c.toNat:Int) < 33) = decide ((c.toNat:Int)≤32):=decide_eq_decide.2 (by omega)
  rcases h2:decide ((c.toNat:Int)≤32) with _|_
  ·rcases h3:decide ((c.toNat:Int) > 126) with _|_
   ·have hb:yH c = false:=by unfold yH;rw [h2,h3];rfl
    rw [hb,Bool.false_or] at hst
    (have zx:=za e4 (za hw (za hget (za e5 (za h2 h3)))));refine zgo ?_;repeat' first|exact zt|apply zan|intro hc
    all_goals first
     | exact hL _ (k + 1) zet ⟨by omega,hst.symm⟩ (by omega) zoe
   ·have hb:yH c = true:=by unfold yH;rw [h3,bo]
    rw [hb,ba] at hst
    rw [hst]
    (have zx:=za e4 (za hw (za hget (za e5 (za h2 h3)))));exact zg
  ·have hb:yH c = true:=by unfold yH;rw [h2,ba]
   rw [hb,ba] at hst
   rw [hst]
   (have zx:=za e4 (za hw (za hget (za e5 h2))));exact zg
def okP {α:Type} (p:α→Bool) (q:α→α→Bool) (l:List α) (k:Nat):Bool:=(List.range k).all fun i=>match l[i]? with|some x=>p x && (i == 0 || match l[i - 1]? with|some y=>q y x|none=>false)|none=>false
theorem aor {α:Type} (p:α→Bool) (q:α→α→Bool) (l:List α):okP p q l 0 = true:=rfl
theorem adD {α:Type} (p:α→Bool) (q:α→α→Bool) (l:List α) (k:Nat):okP p q l (k + 1) = (okP p q l k && match l[k]? with|some x=>p x && (k == 0 || match l[k - 1]? with|some y=>q y x|none=>false)|none=>false):=by
 rw [okP,okP,ZO,bm];simp
theorem anb {α:Type} {p:α→Bool} {q:α→α→Bool} {l:List α} {k n:Nat} (h:okP p q l k = false) (hk:k≤n):okP p q l n = false:=by
 rw [okP,Ze] at h ⊢
 obtain ⟨i,hi,h⟩:=h
 exact ⟨i,Zy.2 (kT (Zy.1 hi) hk),h⟩
theorem ana {α:Type} {p:α→Bool} {q:α→α→Bool} {l:List α} {x:α} (h:l[0]? = some x):okP p q l 1 = p x:=by
 rw [adD,aor,h];simp
theorem akh {α:Type} {p:α→Bool} {q:α→α→Bool} {l:List α} {k:Nat} {x y:α} (h:l[k + 1]? = some x) (h':l[k]? = some y):okP p q l (k + 2) = (okP p q l (k + 1) && (p x && q y x)):=by
 rw [adD,h];simp [h']
def an9 (a b k:Int):Bool:=decide (Qx a b > 0) && ((XK a).kind == k)
def arU (n:Int):Bool:=decide (n≥0) && decide (n≤2147483648)
def ayl (n:Int):Bool:=decide (n≥0) && decide (n < 4294967296)
def alB (l:List (List UInt8)):Bool:=okP QP Op.bytesLess l l.length && decide ((l.length:Int)≤8)
structure Kw where
 serial:Int
 issuer:List UInt8
 subject:List UInt8
 kalg:Int
 kbits:Int
 kid:Int
 halg:Int
 hbits:Int
 from_:Int
 to_:Int
 auth:Bool
 path:Int
 names:List (List UInt8)
 skey:Int
 ssum:Int
def Kw.cells (c:Kw):List V:=[V.int c.serial,V.str c.issuer,V.str c.subject,V.int c.kalg,V.int c.kbits,V.int c.kid,V.int c.halg,V.int c.hbits,V.int c.from_,V.int c.to_,V.bool c.auth,V.int c.path,.sl 1 (c.names.map V.str),V.int c.skey,V.int c.ssum]
def Kw.v (c:Kw):V:=.agg c.cells
def axS (c:Kw):Bool:=decide (c.serial < 0) || (decide (c.serial > 1099511627776) || (!QP c.issuer || (!QP c.subject || !alB c.names)))
def axR (c:Kw):Bool:=!an9 c.kalg c.kbits 2 || (!arU c.kid || (!an9 c.halg c.hbits 1 || (!arU c.skey || !ayl c.ssum)))
def axQ (c:Kw):Bool:=decide (c.from_ < 0) || (decide (c.from_ > c.to_) || decide (c.to_ > 40000))
def axP (c:Kw):Bool:=decide (c.path≥0) && (decide (c.path≤8) && (c.auth || (c.path == 0)))
def ai3 (c:Kw):Bool:=!axS c && (!axR c && (!axQ c && axP c))
def KW:=qd Proofs.Tryz.f140 []
def XF (Γ:Env) (f:Nat):Prop:=∀ (s:List UInt8) (hs:s.length < 2 ^ 60),EvN Γ f [V.str s] (V.bool (QP s))
attribute [local go_sem] QS in
theorem agQ {Γ:Env} {f:Nat} (h:Has Γ.P f 27 KW.1.1.ac KW.1.2) :XF Γ f:=by
 intro s hs
 refine Qc h zsi zcl zcl fun C hC hm=>?_
 subst hC
 simp only [KW,qd,DC.ac]
 refine zgo ?_;repeat' first|exact zt|apply zan|intro hc
 refine Qj (ι:=Nat) (fun k=>k≤s.length∧(s.drop k).any yH = s.any yH) (fun k=>QS [(0,V.str s),(6,.hd 0 0 s.length),(7,V.int s.length),(8,V.int k)] [(0,.buf false 1 (s.map fun c=>V.sc (.int .u8 c.toNat)))] 1) (fun k=>s.length - k) 0 ⟨by omega,by simp⟩ (Qd [(0,2000)]) (zwg [(0,2000)]) fun k hk K' hL=>?_
 obtain ⟨hk,hinv⟩:=hk
 rcases hd:s.drop k with _|⟨c,r⟩
 ·have hkl:=Qu hd
  rw [hd] at hinv
  have e1:decide ((k:Int) < ((s.length:Nat):Int)) = false:=by simp;omega
  have hok:QP s = (decide ((s.length:Int)≥1) && decide ((s.length:Int)≤32)):=by rw [QP,← hinv];rfl
  rw [hok]
  rcases hq:decide ((s.length:Int)≥1) with _|_
  ·(have zx:=za e1 hq);exact zg
  ·(have zx:=za e1 hq);refine zgo ?_;repeat' first|exact zt|apply zan|intro hc
   all_goals first|exact zr|(refine Qg _ rfl ?_;simp only [go_sem];simp;done)
 ·obtain ⟨hk',hget,hr⟩:=Qq hd
  rw [hd] at hinv
  have hw:=Qe (k:=k) (by omega)
  have e1:decide ((k:Int) < ((s.length:Nat):Int)) = true:=by simp;omega
  rcases h1:decide ((c.toNat:Int)≤32) with _|_
  ·rcases h2:decide ((c.toNat:Int) > 126) with _|_
   ·(have zx:=za e1 (za hw (za hget (za h1 h2))));refine zgo ?_;repeat' first|exact zt|apply zan|intro hc
    all_goals first
     | exact hL _ (k + 1) (Qd [(0,0)]) ⟨by omega,by rw [hr,← hinv];simp only [List.any_cons,yH,h1,h2,Bool.or_self,Bool.false_or]⟩ (by omega) (zwg [(0,0)])
   ·have hok:QP s = false:=by rw [QP,← hinv];simp only [List.any_cons,yH,h2,bo,ba,Bool.not_true,zK]
    rw [hok]
    (have zx:=za e1 (za hw (za hget (za h1 h2))));exact zg
  ·have hok:QP s = false:=by rw [QP,← hinv];simp only [List.any_cons,yH,h1,bo,ba,Bool.not_true,zK]
   rw [hok]
   (have zx:=za e1 (za hw (za hget h1)));exact zg
def V9:=qd Proofs.Tryz.f127 []
def XP (Γ:Env) (f:Nat):Prop:=∀ (n:Int),EvN Γ f [V.int n] (V.bool (arU n))
theorem aek {Γ:Env} {f:Nat} (h:Has Γ.P f 9 V9.1.1.ac V9.1.2) :XP Γ f:=by
 intro n
 refine Qc h zsi zcl zcl fun C hC hm=>?_
 subst hC
 simp only [V9,qd,DC.ac]
 unfold arU
 refine zgo ?_;repeat' first|exact zt|apply zan|intro hc
 all_goals first|exact zr|(refine Qg _ rfl ?_;simp only [go_sem];simp [*];done)
def V8:=qd Proofs.Tryz.f298 []
def qL (Γ:Env) (f:Nat):Prop:=∀ (n:Int),EvN Γ f [V.int n] (V.bool (ayl n))
theorem aej {Γ:Env} {f:Nat} (h:Has Γ.P f 9 V8.1.1.ac V8.1.2) :qL Γ f:=by
 intro n
 refine Qc h zsi zcl zcl fun C hC hm=>?_
 subst hC
 simp only [V8,qd,DC.ac]
 unfold ayl
 refine zgo ?_;repeat' first|exact zt|apply zan|intro hc
 all_goals first|exact zr|(refine Qg _ rfl ?_;simp only [go_sem];simp [*];done)
def UR:=qd Proofs.Tryz.f297 []
def jH (Γ:Env) (f:Nat):Prop:=∀ (a b k:Int),EvN Γ f [.agg [V.int a,V.int b],V.int k] (V.bool (an9 a b k))
theorem afq {Γ:Env} {f:Nat} (h:Has Γ.P f 14 UR.1.1.ac UR.1.2) (z0:XE Γ 118) (z1:Wg Γ 195):jH Γ f:=by
 intro a b k
 refine Qc h zsi zcl zcl fun C hC hm=>?_
 subst hC
 simp only [UR,qd,DC.ac]
 unfold an9
 rcases hq:decide (Qx a b > 0) with _|_
 ·(have zx:=hq);refine zgo ?_;repeat' first|exact zt|apply zan|intro hc
  all_goals first|exact zr|(refine Qg _ rfl ?_;simp only [go_sem];simp [*];done)
 ·(have zx:=hq);refine zgo ?_;repeat' first|exact zt|apply zan|intro hc
  all_goals first|exact zr|(refine Qg _ rfl ?_;simp only [go_sem];simp [*];done)
def Wx:=qd Proofs.Tryz.f296 []
def Up (Γ:Env) (f:Nat):Prop:=∀ (l:List (List UInt8)) (hl:l.length < 2 ^ 60) (hn:∀ x∈l,x.length < 2 ^ 60),EvN Γ f [.sl 1 (l.map V.str)] (V.bool (alB l))
attribute [local go_sem] zb in
theorem acg {Γ:Env} {f:Nat} (h:Has Γ.P f 32 Wx.1.1.ac Wx.1.2) (z0:XF Γ 140):Up Γ f:=by
 intro l hl hn
 refine Qc h zsi zcl zcl fun C hC hm=>?_
 subst hC
 simp only [Wx,qd,DC.ac]
 refine zgo ?_;repeat' first|exact zt|apply zan|intro hc
 refine Ji (ι:=Nat) (fun k=>k≤l.length∧okP QP Op.bytesLess l k = true) (fun k=>[(7,V.int k)]) (fun k=>l.length - k) 0 (by omega) ⟨zJ _,rfl⟩ zol zlt zet fun k hk K' hL=>?_
 obtain ⟨hk,hinv⟩:=hk
 simp only [ovT,Xs,Nat.reduceEqDiff,reduceIte]
 rcases hd:l.drop k with _|⟨x,r⟩
 ·have hkl:=Qu hd
  have e1:decide ((k:Int) < (((l.map V.str).length:Nat):Int)) = false:=by simp;omega
  have hkk:k = l.length:=by omega
  subst hkk
  rw [alB,hinv,zO]
  (have zx:=e1);exact zg
 ·obtain ⟨hk',hget,hr⟩:=Qq hd
  have hw:=Qe (k:=k) (by omega)
  have e1:decide ((k:Int) < (((l.map V.str).length:Nat):Int)) = true:=by simp;omega
  have hnx:=(z0 x (hn x (zq hget))).b
  have hbad:okP QP Op.bytesLess l (k + 1) = false→alB l = false:=fun h=>by rw [alB,anb h (by omega),zK]
  rcases hx:QP x with _|_
  ·have hb:okP QP Op.bytesLess l (k + 1) = false:=by rw [adD,hget];simp [hx]
   rw [hbad hb]
   rw [hx] at hnx
   (have zx:=za e1 (za hw hget));exact zg
  ·rw [hx] at hnx
   rcases k with _|k
   ·have hw0:IntKind.i64.wrap 1 = ((1:Nat):Int):=by decide
    have hg1:okP QP Op.bytesLess l (0 + 1) = true:=by rw [ana hget,hx]
    have e2:decide (((0:Nat):Int) > 0) = false:=rfl
    (have zx:=za e1 (za e2 (za hw (za hw0 hget))));refine zgo ?_;repeat' first|exact zt|apply zan|intro hc
    all_goals exact hL _ 1 zet ⟨by omega,hg1⟩ (by omega) zoe
   ·have e2:decide (((k + 1:Nat):Int) > 0) = true:=zn (by omega)
    have hw2:IntKind.i64.wrap (((k + 1:Nat):Int) - 1) = (k:Int):=by rw [Jc (by omega) (by omega)];omega
    obtain ⟨y,hgy⟩:∃ y,l[k]? = some y:=⟨_,zd (by omega)⟩
    have hnext:=akh (p:=QP) (q:=Op.bytesLess) hget hgy
    rw [hinv,hx] at hnext
    rcases hb:Op.bytesLess y x with _|_
    ·rw [hbad (by rw [hnext,hb];rfl)]
     (have zx:=za e1 (za e2 (za hw (za hw2 (za hget (za hgy hb))))));exact zg
    ·(have zx:=za e1 (za e2 (za hw (za hw2 (za hget (za hgy hb))))));refine zgo ?_;repeat' first|exact zt|apply zan|intro hc
     all_goals exact hL _ (k + 2) zet ⟨by omega,by rw [hnext,hb];rfl⟩ (by omega) zoe
def Ww:=qd Proofs.Tryz.f252 []
def Uo (Γ:Env) (f:Nat):Prop:=∀ (c:Kw) (h1:c.issuer.length < 2 ^ 60) (h2:c.subject.length < 2 ^ 60) (h3:c.names.length < 2 ^ 60) (h4:∀ x∈c.names,x.length < 2 ^ 60),EvN Γ f [c.v] (V.bool (ai3 c))
theorem acf {Γ:Env} {f:Nat} (h:Has Γ.P f 91 Ww.1.1.ac Ww.1.2) (z0:XF Γ 140) (z1:Up Γ 296) (z2:jH Γ 297) (z3:XP Γ 127) (z4:qL Γ 298):Uo Γ f:=by
 intro c h1 h2 h3 h4
 refine Qc h zsi zcl zcl fun C hC hm=>?_
 subst hC
 simp only [Ww,qd,DC.ac]
 have hn:=(z1 c.names h3 h4).b
 have ha:=(z0 c.issuer h1).b
 have hb:=(z0 c.subject h2).b
 simp only [Kw.v,Kw.cells]
 refine zgo ?_;repeat' first|exact zt|apply zan|intro hc
 all_goals (refine Qg _ rfl ?_;simp only [go_sem];simp [ai3,axS,axR,axQ,axP, *];done)
def Wy:=qd Proofs.Tryz.f196 []
def Uq (Γ:Env) (f:Nat):Prop:=∀ (c:Kw) (h1:c.issuer.length < 2 ^ 60) (h2:c.subject.length < 2 ^ 60) (h3:c.names.length < 2 ^ 60) (h4:∀ x∈c.names,x.length < 2 ^ 60),EvN Γ f [c.v] (V.int (if ai3 c = true then 0 else 9))
theorem ach {Γ:Env} {f:Nat} (h:Has Γ.P f 6 Wy.1.1.ac Wy.1.2) (z0:Uo Γ 252):Uq Γ f:=by
 intro c h1 h2 h3 h4
 refine Qc h zsi zcl zcl fun C hC hm=>?_
 subst hC
 simp only [Wy,qd,DC.ac]
 have hv:=(z0 c h1 h2 h3 h4).b
 simp only [Kw.v,Kw.cells] at hv ⊢
 rcases hc2:ai3 c with _|_
 ·rw [hc2] at hv
  exact zg
 ·rw [hc2] at hv
  exact zg
def VN:=qd Proofs.Tryz.f131 []
def qp (Γ:Env) (f:Nat):Prop:=∀ (a b:Int),EvN Γ f [.agg [V.int a,V.int b]] (V.bool (an9 a b 2))
theorem adX {Γ:Env} {f:Nat} (h:Has Γ.P f 11 VN.1.1.ac VN.1.2) (z0:j8 Γ 130) (z1:aaR Γ 198):qp Γ f:=by
 intro a b
 refine Qc h zsi zcl zcl fun C hC hm=>?_
 subst hC
 simp only [VN,qd,DC.ac]
 unfold an9
 rcases hq:decide (Qx a b > 0) with _|_
 ·(have zx:=hq);refine zgo ?_;repeat' first|exact zt|apply zan|intro hc
  all_goals first|exact zr|(refine Qg _ rfl ?_;simp only [go_sem];simp [*];done)
 ·(have zx:=hq);refine zgo ?_;repeat' first|exact zt|apply zan|intro hc
  all_goals first|exact zr|(refine Qg _ rfl ?_;simp only [go_sem];simp [*];done)
def anc (f:Qa):Bool:=f.alg == 0 && f.bits == 0
def wB (f:Qa):Bool :=
 if f.kind = 1∨f.kind = 8 then decide (Qx f.alg f.bits > 0) && f.num == 0 && f.text == []
 else if f.kind = 2 then anc f && f.text == [] && decide (f.num≥0) && decide (f.num≤65535)
 else if f.kind = 3 then decide (Qx f.alg f.bits > 0) && (XK f.alg).kind == 2 && decide (f.num≥0) && decide (f.num≤2147483648) && f.text == []
 else if f.kind = 4∨f.kind = 5 then anc f && f.text == [] && decide (f.num≥1) && decide (f.num≤4)
 else if f.kind = 6 then anc f && f.text == [] && decide (f.num≥0) && decide (f.num≤2147483648)
 else if f.kind = 7 then anc f && f.num == 0 && QP f.text
 else false
def YI (f:Qa):Bool:=QP f.host && QP f.subj && decide (f.mach≥0) && decide (f.mach≤1099511627776) && (decide (f.day≥0) && decide (f.day≤40000) && decide (f.conf≥1) && decide (f.conf≤100)) && !decide (f.src < 1) && !decide (f.src > 7) && wB f
def VR:=qd Proofs.Tryz.f141 []
def qu (Γ:Env) (f:Nat):Prop:=∀ (f0:Qa) (ht:f0.text.length < 2 ^ 60),EvN Γ f [f0.v] (V.bool (wB f0))
theorem ad2 {Γ:Env} {f:Nat} (h:Has Γ.P f 114 VR.1.1.ac VR.1.2) (z0:XE Γ 118) (z1:Wg Γ 195) (z2:XF Γ 140):qu Γ f:=by
 intro f0 ht
 refine Qc h zsi zcl zcl fun C hC hm=>?_
 subst hC
 simp only [VR,qd,DC.ac]
 obtain ⟨src,host,mach,day,conf,kind,subj,alg,bits,num,text⟩:=f0
 have hN:=(z2 text ht).b
 simp only [wB,anc,Qa.v,Qa.cells] at *
 generalize hv:decide (Qx alg bits > 0) = vv
 generalize hk:(XK alg).kind = kk
 generalize hkb:(kk == 2) = kb
 generalize hd0:decide (num≥0) = d0
 generalize hd1:decide (num≤65535) = d1
 generalize hd2:decide (num≤2147483648) = d2
 generalize hd3:decide (num≥1) = d3
 generalize hd4:decide (num≤4) = d4
 generalize hnn:QP text = nn at *
 generalize ha:(alg == 0) = a0
 generalize hb:(bits == 0) = b0
 generalize htx:(text == []) = t0
 generalize hnm:(num == 0) = n0
 have E:∀ n:Int,kind≠n→(kind == n) = false:=fun n h=>by simpa using h
 by_cases k1:kind = 1
 ·subst k1
  repeat' (first|(refine zsk ?_;intro K' hK)|refine zsp ?_|(refine zsc ?_ ?_<;>intro hc<;>first|exact znh|try simp only [znz] at hc)|simp (maxSteps:=1000000) only [go_sem,hv,hk,hkb,ha,hb,htx,hnm,hd0,hd1,hd2,hd3,hd4]|(refine hK _ ?_;clear hK K')|apply zan|(apply QA;(focus first|exact (z0 _ _).b|exact (z1 _).b|exact (z2 _ zsd).b))|exact zsq|fail)
  all_goals (refine Qg _ rfl ?_;simp only [go_sem];simp_all;done)
 by_cases k8:kind = 8
 ·subst k8
  (have zx:=za hv (za hk (za hkb (za ha (za hb (za htx (za hnm (za hd0 (za hd1 (za hd2 (za hd3 hd4)))))))))));refine zgo ?_;repeat' first|exact zt|apply zan|intro hc
  all_goals (refine Qg _ rfl ?_;simp only [go_sem];simp_all;done)
 by_cases k2:kind = 2
 ·subst k2
  (have zx:=za hv (za hk (za hkb (za ha (za hb (za htx (za hnm (za hd0 (za hd1 (za hd2 (za hd3 hd4)))))))))));refine zgo ?_;repeat' first|exact zt|apply zan|intro hc
  all_goals (refine Qg _ rfl ?_;simp only [go_sem];simp_all;done)
 by_cases k3:kind = 3
 ·subst k3
  (have zx:=za hv (za hk (za hkb (za ha (za hb (za htx (za hnm (za hd0 (za hd1 (za hd2 (za hd3 hd4)))))))))));refine zgo ?_;repeat' first|exact zt|apply zan|intro hc
  all_goals (refine Qg _ rfl ?_;simp only [go_sem];simp_all;done)
 by_cases k4:kind = 4
 ·subst k4
  (have zx:=za hv (za hk (za hkb (za ha (za hb (za htx (za hnm (za hd0 (za hd1 (za hd2 (za hd3 hd4)))))))))));refine zgo ?_;repeat' first|exact zt|apply zan|intro hc
  all_goals (refine Qg _ rfl ?_;simp only [go_sem];simp_all;done)
 by_cases k5:kind = 5
 ·subst k5
  (have zx:=za hv (za hk (za hkb (za ha (za hb (za htx (za hnm (za hd0 (za hd1 (za hd2 (za hd3 hd4)))))))))));refine zgo ?_;repeat' first|exact zt|apply zan|intro hc
  all_goals (refine Qg _ rfl ?_;simp only [go_sem];simp_all;done)
 by_cases k6:kind = 6
 ·subst k6
  (have zx:=za hv (za hk (za hkb (za ha (za hb (za htx (za hnm (za hd0 (za hd1 (za hd2 (za hd3 hd4)))))))))));refine zgo ?_;repeat' first|exact zt|apply zan|intro hc
  all_goals (refine Qg _ rfl ?_;simp only [go_sem];simp_all;done)
 by_cases k7:kind = 7
 ·subst k7
  (have zx:=za hv (za hk (za hkb (za ha (za hb (za htx (za hnm (za hd0 (za hd1 (za hd2 (za hd3 hd4)))))))))));refine zgo ?_;repeat' first|exact zt|apply zan|intro hc
  all_goals (refine Qg _ rfl ?_;simp only [go_sem];simp_all;done)
 repeat' (first|(refine zsk ?_;intro K' hK)|refine zsp ?_|(refine zsc ?_ ?_<;>intro hc<;>first|exact znh|try simp only [znz] at hc)|simp (maxSteps:=1000000) only [go_sem,hv,hk,hkb,ha,hb,htx,hnm,hd0,hd1,hd2,hd3,hd4,E 1 k1,E 8 k8,E 2 k2,E 3 k3,E 4 k4,E 5 k5,E 6 k6,E 7 k7]|(refine hK _ ?_;clear hK K')|apply zan|(apply QA;(focus first|exact (z0 _ _).b|exact (z1 _).b|exact (z2 _ zsd).b))|exact zsq|fail)
 all_goals (refine Qg _ rfl ?_;simp only [go_sem];simp [*];done)
def KP:=qd Proofs.Tryz.f72 []
def WO (Γ:Env) (f:Nat):Prop:=∀ (f0:Qa) (hh:f0.host.length < 2 ^ 60) (hs:f0.subj.length < 2 ^ 60) (ht:f0.text.length < 2 ^ 60),EvN Γ f [f0.v] (V.int (bif YI f0 then 0 else 24))
theorem agJ {Γ:Env} {f:Nat} (h:Has Γ.P f 62 KP.1.1.ac KP.1.2) (z0:XF Γ 140) (z1:qu Γ 141):WO Γ f:=by
 intro f0 hh hs ht
 refine Qc h zsi zcl zcl fun C hC hm=>?_
 subst hC
 simp only [KP,qd,DC.ac]
 obtain ⟨src,host,mach,day,conf,kind,subj,alg,bits,num,text⟩:=f0
 have hN1:=(z0 host hh).b
 have hN2:=(z0 subj hs).b
 have hC:=(z1 ⟨src,host,mach,day,conf,kind,subj,alg,bits,num,text⟩ ht).b
 simp only [YI,Qa.v,Qa.cells] at *
 generalize hd1:decide (mach≥0) = d1
 generalize hd2:decide (mach≤1099511627776) = d2
 generalize hd3:decide (day≥0) = d3
 generalize hd4:decide (day≤40000) = d4
 generalize hd5:decide (conf≥1) = d5
 generalize hd6:decide (conf≤100) = d6
 generalize hd7:decide (src < 1) = d7
 generalize hd8:decide (src > 7) = d8
 generalize wB ⟨src,host,mach,day,conf,kind,subj,alg,bits,num,text⟩ = cc at *
 generalize QP host = n1 at *
 generalize QP subj = n2 at *
 (have zx:=za hd1 (za hd2 (za hd3 (za hd4 (za hd5 (za hd6 (za hd7 hd8)))))));refine zgo ?_;repeat' first|exact zt|apply zan|intro hc
 all_goals (refine Qg _ rfl ?_;simp only [go_sem];simp_all;done)
end Av
end
