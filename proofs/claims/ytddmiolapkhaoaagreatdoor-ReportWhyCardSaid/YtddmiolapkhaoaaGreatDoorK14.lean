/- Calls whose arguments show objects from within. -/
import Derived.Test.YtddmiolapkhaoaaGreatDoorK13
set_option linter.unusedVariables false
set_option linter.unusedSimpArgs false
section
set_option maxRecDepth 10000
set_option maxHeartbeats 4000000
namespace Av
open Go
attribute [local irreducible] AWp U3 abh acE awS awC ajc awQ ajv Jo jG aiB awR yv awB okR ad1 ris
theorem aoq (c:UInt8):∀ (r:List (List UInt8)) (x:List UInt8),[c].intercalate (x :: r) = x++(r.map fun y=>c :: y).flatten
 | [],x=>by simp [List.intercalate]
 | y :: r,x=>by
   have:=aoq c r y
   simp only [List.intercalate,List.intersperse_cons_cons,List.flatten_cons] at this ⊢
   rw [this];simp
def adT (Γ:Env) (f:Nat):Prop:=∀ (xs:List (List UInt8)) (sep:List UInt8) (hn:xs.length < 2 ^ 40) (hl:(sep.intercalate xs).length < 2 ^ 40),EvN Γ f [.sl 1 (xs.map V.str),V.str sep] (V.str (sep.intercalate xs))
structure NR (a:List Int):Prop where
 nd:a.Nodup
 rg:∀ x∈a,1≤x∧x≤16
theorem NR.add {a:List Int} (h:NR a) (l:List Int) (k:Nat):NR (if a.contains (1 + (YA l k 16).1) = true then a else a++[1 + (YA l k 16).1]):=by
 have hr:=Jf (l:=l) (k:=k) (n:=16) (by omega) (by omega)
 split
 ·exact h
 ·rename_i hc
  have hx:1 + (YA l k 16).1 ∉ a:=by simpa using hc
  refine ⟨bj.2 ⟨h.nd,by simp,fun x hx2 y hy e=>?_⟩,fun x hx2=>?_⟩
  ·simp at hy;subst hy;subst e;exact hx hx2
  ·rcases zW.1 hx2 with h1|h1
   ·exact h.rg x h1
   ·simp at h1;omega
theorem as0 {α:Type} {p:α→Bool} {l r:List α} {k:Nat} {x:α} (h:l.drop k = x :: r):(l.drop k).any p = (p x || (l.drop (k + 1)).any p):=by
 obtain ⟨_,_,hr⟩:=QJ h
 rw [h,List.any_cons,hr]
def jZ (c:UInt8):Bool:=decide ((c.toNat:Int)≤32) || decide ((c.toNat:Int) > 126)
def Q8 (s:List UInt8):Bool:=!s.any jZ && (decide ((s.length:Int)≥1) && decide ((s.length:Int)≤32))
def air:AC:=Qb [0] (.reg [mc 2 (V.bool false)]) (Qb [0] (Qb [0,11] (.reg [mv 4 0,xo 5 (.lenS (.t 4)),bc 6 .lss 5 (V.int 1),mv 7 6,mg 8 0 7 false,xg 9 (.lenS (.t 8)) 7 false,xg 10 (.bin .gtr (.t 9) (.c (V.int 32))) 7 false,xo 11 (.pick (.t 7) (.c (V.bool true)) (.t 10))]) (.cond (.t 11) (Qb [2] (.reg [mc 2 (V.bool false)]) .ret) .skip)) (Qb [] (Qb [0,3] (.reg [mc 3 (V.int 0)]) (.block 0 (JG [0,3] (Qb [0,3] (Qb [0,3,15] (.reg [mv 12 3,mv 13 0,xo 14 (.lenS (.t 13)),bn 15 .lss 12 14]) (.cond (.t 15) .skip (.exit 0))) (Qb [0,3] (.block 1 (Qb [0,3,27] (.reg [mv 18 0,mv 19 3,xo 20 (.idxS (.t 18) (.t 19)),bc 21 .lss 20 (.sc (.int .u8 33)),mv 22 21,mg 23 0 22 false,mg 24 3 22 false,xg 25 (.idxS (.t 23) (.t 24)) 22 false,xg 26 (.bin .gtr (.t 25) (.c (.sc (.int .u8 126)))) 22 false,xo 27 (.pick (.t 22) (.c (V.bool true)) (.t 26))]) (.cond (.t 27) (Qb [2] (.reg [mc 2 (V.bool false)]) .ret) .skip))) (.reg [mv 16 3,bc 17 .add 16 (V.int 1),mv 3 17])))))) (Qb [2] (.reg [mc 2 (V.bool true)]) .ret))) def ch:List Q0:=[.tmp 2]
def abP (Γ:Env) (f:Nat):Prop:=∀ (s:List UInt8) (hs:s.length < 2 ^ 60),EvN Γ f [V.str s] (V.bool (Q8 s))
theorem am4 {Γ:Env} {f:Nat} (h:Has Γ.P f 28 air ch) :abP Γ f:=by
 intro s hs
 refine Qc h zsi zcl zcl fun C hC hm=>?_
 subst hC
 unfold air
 by_cases h0:s.length < 1
 ·have e1:decide ((s.length:Int) < 1) = true:=zn (by omega)
  have e2:Q8 s = false:=by unfold Q8;rw [zv (by omega:¬ (s.length:Int)≥1)];simp
  rw [e2]
  (have zx:=e1);exact zg
 have e1:decide ((s.length:Int) < 1) = false:=zv (by omega)
 by_cases h1:s.length > 32
 ·have e3:decide ((s.length:Int) > 32) = true:=zn (by omega)
  have e2:Q8 s = false:=by unfold Q8;rw [zv (by omega:¬ (s.length:Int)≤32)];simp
  rw [e2]
  (have zx:=za e1 e3);exact zg
 have e3:decide ((s.length:Int) > 32) = false:=zv (by omega)
 have e2:Q8 s = !s.any jZ:=by unfold Q8;rw [zn (by omega:(s.length:Int)≤32),zn (by omega:(s.length:Int)≥1)];simp
 rw [e2]
 (have zx:=za e1 e3);refine zgo ?_;repeat' first|exact zt|apply zan|intro hc
 refine Jc (ι:=Nat) (fun k=>k≤s.length∧(s.drop k).any jZ = s.any jZ) (fun k=>[(3,V.int k)]) (fun k=>s.length - k) 0 (by omega) ⟨by simp,by simp⟩ zol zlt zet fun k hk K' hL=>?_
 obtain ⟨hk,hinv⟩:=hk
 simp only [ovT,Xr,Nat.reduceEqDiff,reduceIte]
 rcases hd:s.drop k with _|⟨c,r⟩
 ·have:=QY hd
  rw [hd] at hinv
  have e4:decide ((k:Int) < ((s.length:Nat):Int)) = false:=by simp;omega
  rw [← hinv]
  (have zx:=e4);refine zgo ?_;repeat' first|exact zt|apply zan|intro hc
  all_goals first|exact zr|(refine Qr _ rfl ?_;simp only [go_sem];simp;done)
 ·obtain ⟨hk',hget,hr⟩:=QJ hd
  have hst:=as0 (p:=jZ) hd
  rw [hinv] at hst
  have hw:=Qq (k:=k) (by omega)
  have e4:decide ((k:Int) < ((s.length:Nat):Int)) = true:=by simp;omega
  have e5:decide ((c.toNat:Int) < 33) = decide ((c.toNat:Int)≤32):=decide_eq_decide.2 (by omega)
  rcases h2:decide ((c.toNat:Int)≤32) with _|_
  ·rcases h3:decide ((c.toNat:Int) > 126) with _|_
   ·have hb:jZ c = false:=by unfold jZ;rw [h2,h3];rfl
    rw [hb,kC] at hst
    (have zx:=za e4 (za hw (za hget (za e5 (za h2 h3)))));refine zgo ?_;repeat' first|exact zt|apply zan|intro hc
    all_goals first
     | exact hL _ (k + 1) zet ⟨by omega,hst.symm⟩ (by omega) zoe
   ·have hb:jZ c = true:=by unfold jZ;rw [h3,ZY]
    rw [hb,kl] at hst
    rw [hst]
    (have zx:=za e4 (za hw (za hget (za e5 (za h2 h3)))));exact zg
  ·have hb:jZ c = true:=by unfold jZ;rw [h2,kl]
   rw [hb,kl] at hst
   rw [hst]
   (have zx:=za e4 (za hw (za hget (za e5 h2))));exact zg
def okP {α:Type} (p:α→Bool) (q:α→α→Bool) (l:List α) (k:Nat):Bool:=(List.range k).all fun i=>match l[i]? with|some x=>p x && (i == 0 || match l[i - 1]? with|some y=>q y x|none=>false)|none=>false
theorem aq5 {α:Type} (p:α→Bool) (q:α→α→Bool) (l:List α):okP p q l 0 = true:=rfl
theorem ajm {α:Type} (p:α→Bool) (q:α→α→Bool) (l:List α) (k:Nat):okP p q l (k + 1) = (okP p q l k && match l[k]? with|some x=>p x && (k == 0 || match l[k - 1]? with|some y=>q y x|none=>false)|none=>false):=by
 rw [okP,okP,ZM,List.all_append];simp
theorem atW {α:Type} {p:α→Bool} {q:α→α→Bool} {l:List α} {k n:Nat} (h:okP p q l k = false) (hk:k≤n):okP p q l n = false:=by
 rw [okP,List.all_eq_false] at h ⊢
 obtain ⟨i,hi,h⟩:=h
 exact ⟨i,k9.2 (Zm (k9.1 hi) hk),h⟩
theorem atU {α:Type} {p:α→Bool} {q:α→α→Bool} {l:List α} {x:α} (h:l[0]? = some x):okP p q l 1 = p x:=by
 rw [ajm,aq5,h];simp
theorem aq6 {α:Type} {p:α→Bool} {q:α→α→Bool} {l:List α} {k:Nat} {x y:α} (h:l[k + 1]? = some x) (h':l[k]? = some y):okP p q l (k + 2) = (okP p q l (k + 1) && (p x && q y x)):=by
 rw [ajm,h];simp [h']
def aw8 (a b k:Int):Bool:=decide (Q4 a b > 0) && ((X7 a).kind == k)
def azB (n:Int):Bool:=decide (n≥0) && decide (n≤2147483648)
def aAd (n:Int):Bool:=decide (n≥0) && decide (n < 4294967296)
def ayG (l:List (List UInt8)):Bool:=okP Q8 Op.bytesLess l l.length && decide ((l.length:Int)≤8)
structure ahD where
 serial:Int
 issuer:List UInt8
 subject:List UInt8
 kalg:Int
 kbits:Int
 kid:Int
 halg:Int
 hbits:Int
 from_:Int
 to_:Int
 auth:Bool
 path:Int
 names:List (List UInt8)
 skey:Int
 ssum:Int
def ahD.cells (c:ahD):List V:=[V.int c.serial,V.str c.issuer,V.str c.subject,V.int c.kalg,V.int c.kbits,V.int c.kid,V.int c.halg,V.int c.hbits,V.int c.from_,V.int c.to_,V.bool c.auth,V.int c.path,.sl 1 (c.names.map V.str),V.int c.skey,V.int c.ssum]
def ahD.v (c:ahD):V:=.agg c.cells
def azS (c:ahD):Bool:=decide (c.serial < 0) || (decide (c.serial > 1099511627776) || (!Q8 c.issuer || (!Q8 c.subject || !ayG c.names)))
def azR (c:ahD):Bool:=!aw8 c.kalg c.kbits 2 || (!azB c.kid || (!aw8 c.halg c.hbits 1 || (!azB c.skey || !aAd c.ssum)))
def azQ (c:ahD):Bool:=decide (c.from_ < 0) || (decide (c.from_ > c.to_) || decide (c.to_ > 40000))
def azP (c:ahD):Bool:=decide (c.path≥0) && (decide (c.path≤8) && (c.auth || (c.path == 0)))
def azO (c:ahD):Bool:=!azS c && (!azR c && (!azQ c && azP c))
def adu:AC:=Qb [0] (.reg [mc 2 (V.bool false)]) (Qb [0] (Qb [0,6,7,8] (.reg [mv 5 0,xo 6 (.convSB (.t 5)),ln 7 6,mc 8 (V.int 0)]) (.block 0 (JG [0,6,7,8] (Qb [0,6,7,8,9] (.reg [bn 9 .lss 8 7]) (Qb [0,6,7,8] (.cond (.t 9) .skip (.exit 0)) (Qb [0,6,7,8] (.block 1 (Qb [0,4,6,7,8] (.reg [ia 10 1 6 8,ld 11 1 10,mv 4 11]) (Qb [0,6,7,8,17] (.reg [mv 12 4,bc 13 .leq 12 (.sc (.int .u8 32)),mv 14 13,mg 15 4 14 false,xg 16 (.bin .gtr (.t 15) (.c (.sc (.int .u8 126)))) 14 false,xo 17 (.pick (.t 14) (.c (V.bool true)) (.t 16))]) (.cond (.t 17) (Qb [2] (.reg [mc 2 (V.bool false)]) .ret) .skip)))) (.reg [bc 18 .add 8 (V.int 1),mv 8 18]))))))) (Qb [2] (.reg [mv 19 0,xo 20 (.lenS (.t 19)),bc 21 .geq 20 (V.int 1),mv 22 21,mg 23 0 22 true,xg 24 (.lenS (.t 23)) 22 true,xg 25 (.bin .leq (.t 24) (.c (V.int 32))) 22 true,xo 26 (.pick (.t 22) (.t 25) (.c (V.bool false))),mv 2 26]) .ret)) def cj:List Q0:=[.tmp 2]
def Uu (Γ:Env) (f:Nat):Prop:=∀ (s:List UInt8) (hs:s.length < 2 ^ 60),EvN Γ f [V.str s] (V.bool (Q8 s))
attribute [local go_sem] Y1 in
theorem ai8 {Γ:Env} {f:Nat} (h:Has Γ.P f 27 adu cj) :Uu Γ f:=by
 intro s hs
 refine Qc h zsi zcl zcl fun C hC hm=>?_
 subst hC
 unfold adu
 refine zgo ?_;repeat' first|exact zt|apply zan|intro hc
 refine QC (ι:=Nat) (fun k=>k≤s.length∧(s.drop k).any jZ = s.any jZ) (fun k=>Y1 [(0,V.str s),(6,.hd 0 0 s.length),(7,V.int s.length),(8,V.int k)] [(0,.buf false 1 (s.map fun c=>V.sc (.int .u8 c.toNat)))] 1) (fun k=>s.length - k) 0 ⟨by omega,by simp⟩ (Qi [(0,2000)]) (zwg [(0,2000)]) fun k hk K' hL=>?_
 obtain ⟨hk,hinv⟩:=hk
 rcases hd:s.drop k with _|⟨c,r⟩
 ·have hkl:=QY hd
  rw [hd] at hinv
  have e1:decide ((k:Int) < ((s.length:Nat):Int)) = false:=by simp;omega
  have hok:Q8 s = (decide ((s.length:Int)≥1) && decide ((s.length:Int)≤32)):=by rw [Q8,← hinv];rfl
  rw [hok]
  rcases hq:decide ((s.length:Int)≥1) with _|_
  ·(have zx:=za e1 hq);exact zg
  ·(have zx:=za e1 hq);refine zgo ?_;repeat' first|exact zt|apply zan|intro hc
   all_goals first|exact zr|(refine Qr _ rfl ?_;simp only [go_sem];simp;done)
 ·obtain ⟨hk',hget,hr⟩:=QJ hd
  rw [hd] at hinv
  have hw:=Qq (k:=k) (by omega)
  have e1:decide ((k:Int) < ((s.length:Nat):Int)) = true:=by simp;omega
  rcases h1:decide ((c.toNat:Int)≤32) with _|_
  ·rcases h2:decide ((c.toNat:Int) > 126) with _|_
   ·(have zx:=za e1 (za hw (za hget (za h1 h2))));refine zgo ?_;repeat' first|exact zt|apply zan|intro hc
    all_goals first
     | exact hL _ (k + 1) (Qi [(0,0)]) ⟨by omega,by rw [hr,← hinv];simp only [List.any_cons,jZ,h1,h2,Bool.or_self,kC]⟩ (by omega) (zwg [(0,0)])
   ·have hok:Q8 s = false:=by rw [Q8,← hinv];simp only [List.any_cons,jZ,h2,ZY,kl,Bool.not_true,ke]
    rw [hok]
    (have zx:=za e1 (za hw (za hget (za h1 h2))));exact zg
  ·have hok:Q8 s = false:=by rw [Q8,← hinv];simp only [List.any_cons,jZ,h1,ZY,kl,Bool.not_true,ke]
   rw [hok]
   (have zx:=za e1 (za hw (za hget h1)));exact zg
def aaE (Jw wz:Nat):AC:=Qb [1] (.reg [xo 1 (.box true 2 (.t 0)),mc 2 (V.bool false)]) (Qb [2] (.reg [xo 3 (.load true 2 (.t 1)),cl 4 Jw [3],mv 5 4,xg 6 (.faddr 0 (.t 1)) 5 true,xg 7 (.load false 1 (.t 6)) 5 true,xg 8 (.call wz [(.t 7)]) 5 true,xg 9 (.bin .eql (.t 8) (.c (V.int 2))) 5 true,xo 10 (.pick (.t 5) (.t 9) (.c (V.bool false))),mv 2 10]) .ret) def cm:List Q0:=[.tmp 2]
def KH (Γ:Env) (f:Nat):Prop:=∀ (a b:Int),EvN Γ f [.agg [V.int a,V.int b]] (V.bool (aw8 a b 2))
theorem af5 {Γ:Env} {f Jw wz:Nat} (h:Has Γ.P f 11 (aaE Jw wz) cm) (z0:Ug Γ Jw) (z1:abS Γ wz):KH Γ f:=by
 intro a b
 refine Qc h zsi zcl zcl fun C hC hm=>?_
 subst hC
 unfold aaE
 unfold aw8
 rcases hq:decide (Q4 a b > 0) with _|_
 ·(have zx:=hq);refine zgo ?_;repeat' first|exact zt|apply zan|intro hc
  all_goals first|exact zr|(refine Qr _ rfl ?_;simp only [go_sem];simp [*];done)
 ·(have zx:=hq);refine zgo ?_;repeat' first|exact zt|apply zan|intro hc
  all_goals first|exact zr|(refine Qr _ rfl ?_;simp only [go_sem];simp [*];done)
end Av
end
section
namespace Av
open Go
mutual
def V.deep:V→List Nat
 | .hd a _ _=>[a]
 | .ptr a _=>[a]
 | .agg cs=>ao0 cs
 | .tup cs=>ao0 cs
 | .clo _ cs=>ao0 cs
 | .top=>[]
 | .sc _=>[]
 | .nn=>[]
 | .sl _ _=>[]
 | .ept _ _ _=>[]
 | .mp _=>[]
 | .ro _ _=>[]
def ao0:List V→List Nat
 | []=>[]
 | v :: r=>v.deep++ao0 r
end
attribute [go_sem] V.deep ao0 List.nil_append kD List.cons_append
section
variable {Γ:Env} {b:Nat} {r:List AO} {s:St} {d:Option Nat} {f:FuncId} {acts args:List V} {res:V} {K:St→Prop} {okf:Option (List Nat)→Prop}
theorem az6 (h:EvC Γ f args res) (hc:okf (some (ao0 acts))) (hk:U3 Γ (b + KK) r { t:=(s.put d res).t,o:=xO (some (ao0 acts)) [] s.o,n:=s.n } K):akO Γ b r s d f acts args okf K:=by
 rintro rfl rfl
 refine J5 ⟨_,_,_,_,[],some (ao0 acts),h.1,YJ _ _ _ hc,trivial,kz,fun x hx=>by simp at hx,by simp,by simp [KK],fun h=>by simp at h,?_⟩
 simp only [Xe,Yy,Wh _ _ h.2]
 exact hk
end
end Av
end
section
namespace Av
open Go
structure EvI (Γ:Env) (f:FuncId) (args:List V) (sx:Nat) (xs ys:List V):Prop where
 ev:Ev Γ f (.hd 0 0 xs.length :: args) [.buf true sx xs] (.hd 1 0 ys.length) [.dead,.buf true sx ys]
structure EvX (Γ:Env) (f:FuncId) (args:List V) (sx:Nat) (xs:List V):Prop where
 ev:Ev Γ f (.hd 0 0 xs.length :: args) [.buf true sx xs] (.hd 0 0 xs.length) [.buf true sx xs]
section
variable {Γ:Env} {A W:Nat→Bool} {b:Nat} {r:List AO} {s:St} {d:Option Nat} {f:FuncId} {acts args:List V} {okf:Option (List Nat)→Prop} {J K:St→Prop} {a n sx:Nat} {xs ys:List V} {x:V}
theorem apf (ha:s.o a = some (.buf true sx xs)) (h:EvI Γ f args sx xs ys) (hal:(JD acts).contains a = false) (hd:decide (a < b) = true) (hn:n = xs.length) (hc:QL s.o (some (JD acts)) acts)
  (hk:U3 Γ (b + KK) r { t:=(s.put d (.hd b 0 ys.length)).t,o:=upd (upd (xO (some (JD acts)) [a] s.o) b (some (.buf true sx ys))) a (some .dead),n:=s.n } K):akO Γ b r s d f (.hd a 0 n :: acts) (x :: args) okf K:=by
 intro h1 _
 simp only [Y2,km] at h1
 obtain ⟨_,rfl⟩:=h1
 subst hn
 have hal':a ∉ JD acts:=by simpa using hal
 refine J5 ⟨_,_,_,_,[a],some (JD acts),h.ev,⟨?_,Yn s.o [a] _ (fun y hy=>?_) acts hc⟩,⟨⟨_,ha,rfl,rfl⟩,trivial⟩,by simp,by simpa using zV hd,by simp,by simp [KK],fun h=>by simp at h,?_⟩
 ·simp [conv]
 ·intro e
  rw [zq.1 e] at hy
  exact hal' hy
 ·simp only [Xe,Yy,Ob.ren,V.ren,sig]
  exact hk
theorem aiC (ha:s.o a = some (.buf true sx xs)) (h:EvX Γ f args sx xs) (hal:(JD acts).contains a = false) (hd:decide (a < b) = true) (hn:n = xs.length) (hc:QL s.o (some (JD acts)) acts)
  (hk:U3 Γ (b + KK) r { t:=(s.put d (.hd a 0 n)).t,o:=upd (xO (some (JD acts)) [a] s.o) a (some (.buf true sx xs)),n:=s.n } K):akO Γ b r s d f (.hd a 0 n :: acts) (x :: args) okf K:=by
 intro h1 _
 simp only [Y2,km] at h1
 obtain ⟨_,rfl⟩:=h1
 subst hn
 have hal':a ∉ JD acts:=by simpa using hal
 refine J5 ⟨_,_,_,_,[a],some (JD acts),h.ev,⟨?_,Yn s.o [a] _ (fun y hy=>?_) acts hc⟩,⟨⟨_,ha,rfl,rfl⟩,trivial⟩,by simp,by simpa using zV hd,by simp,by simp [KK],fun h=>by simp at h,?_⟩
 ·simp [conv]
 ·intro e
  rw [zq.1 e] at hy
  exact hal' hy
 ·simp only [Xe,Yy,Ob.ren,V.ren,sig]
  exact hk
theorem aku {nt:Nat} {ac:AC} {rs:List Q0} (hb:Has Γ.P f nt ac rs) (ha:args.length + 1≤nt)
  (h:∀ C:Ctx,C.env = Γ→C.m = 1→AWp C nt ac (Wf (.hd 0 0 xs.length :: args) [.buf true sx xs]) (acw 1 rs (.hd 1 0 ys.length) [.dead,.buf true sx ys]) (fun _ _=>False) (acw 1 rs (.hd 1 0 ys.length) [.dead,.buf true sx ys])):EvI Γ f args sx xs ys :=
 ⟨XW hb (by simpa using ha) fun C hC hm=>h C hC hm⟩
theorem xf {nt:Nat} {ac:AC} {rs:List Q0} (hb:Has Γ.P f nt ac rs) (ha:args.length + 1≤nt)
  (h:∀ C:Ctx,C.env = Γ→C.m = 1→AWp C nt ac (Wf (.hd 0 0 xs.length :: args) [.buf true sx xs]) (acw 1 rs (.hd 0 0 xs.length) [.buf true sx xs]) (fun _ _=>False) (acw 1 rs (.hd 0 0 xs.length) [.buf true sx xs])):EvX Γ f args sx xs :=
 ⟨XW hb (by simpa using ha) fun C hC hm=>h C hC hm⟩
end
def ayl (n:Nat) (v:Value):List Value:=List.replicate n v
theorem aAi {x y n:Nat} {o:Nat→Option Ob}:xO (some [x,y]) [] o n = if n = x then (o n).map Ob.frz else if n = y then (o n).map Ob.frz else o n:=by
 simp only [xO,zy,zC,or_false,not_false_eq_true,and_true]
 by_cases h1:n = x<;>by_cases h2:n = y<;>simp [h1,h2]
theorem aAh {x y:Nat}:(x∈[x,y]) = True:=by simp
theorem aAg {x y:Nat}:(y∈[x,y]) = True:=by simp
theorem aAt {n:Int}:([V.sc (Value.int IntKind.i64 n)].all (xZ IntKind.i64) = true) = True:=by simp [xZ]
attribute [go_sem] aAi aAh aAg aAt
theorem aw3 {rs:List Q0} {s:St} {xs' ys:List V} {sx:Nat} (i n:Nat) (h:aeh s rs = some [.hd i 0 n]) (h0:∃ x,s.o 0 = some x) (hi:s.o i = some (.buf true sx xs')) (hi1:1≤i) (hx:xs' = ys) (hn:n = ys.length) :
  acw 1 rs (.hd 1 0 ys.length) [.dead,.buf true sx ys] s:=by
 subst hn;subst hx
 obtain ⟨x0,e0⟩:=h0
 refine VF rs _ _ h ⟨[0,i],none,by simp [afy,conv],⟨⟨_,e0,?_⟩,⟨_,hi,fun h=>h,rfl,rfl⟩,trivial⟩,?_,rfl⟩
 ·simp [avo]
 ·simp;omega
theorem aoX {rs:List Q0} {s:St} {xs' ys:List V} {sx:Nat} (n:Nat) (h:aeh s rs = some [.hd 0 0 n]) (hi:s.o 0 = some (.buf true sx xs')) (hx:xs' = ys) (hn:n = ys.length) :
  acw 1 rs (.hd 0 0 ys.length) [.buf true sx ys] s:=by
 subst hn;subst hx
 exact VF rs _ _ h ⟨[0],none,by simp [afy,conv],⟨⟨_,hi,fun h=>h,rfl,rfl⟩,trivial⟩,by simp,rfl⟩
end Av
end
section
set_option maxRecDepth 10000
set_option maxHeartbeats 4000000
namespace Av
open Go
attribute [local irreducible] AWp U3 abh acE awS awC ajc awQ ajv Jo jG aiB awR yv awB okR ad1 ris
structure Qa where
 src:Int
 host:List UInt8
 mach:Int
 day:Int
 conf:Int
 kind:Int
 subj:List UInt8
 alg:Int
 bits:Int
 num:Int
 text:List UInt8
 deriving DecidableEq
def Qa.cells (f:Qa):List V:=[V.int f.src,V.str f.host,V.int f.mach,V.int f.day,V.int f.conf,V.int f.kind,V.str f.subj,V.int f.alg,V.int f.bits,V.int f.num,V.str f.text]
def Qa.v (f:Qa):V:=.agg f.cells
def WN (x y:Int):Int:=if x < y then -1 else if x > y then 1 else 0
def abi (x y:List UInt8):Int:=if Op.bytesLess x y then -1 else if Op.bytesLess y x then 1 else 0
def Jt:List Int→Int
 | []=>0
 | x :: r=>if x≠0 then x else Jt r
def axp (a b:Qa):List Int:=[abi a.host b.host,WN a.mach b.mach,WN a.day b.day,abi a.subj b.subj,WN a.kind b.kind,WN a.alg b.alg,WN a.bits b.bits,WN a.num b.num,abi a.text b.text,WN a.src b.src,WN a.conf b.conf]
def aiP (a b:Qa):Int:=Jt (axp a b)
def KC (Γ:Env) (f:Nat):Prop:=∀ (a b:List UInt8),EvN Γ f [V.str a,V.str b] (V.int (abi a b))
def adr:AC:=Qb [0] (.reg [mc 2 (V.bool false)]) (Qb [2] (.reg [mv 3 0,mv 4 0,bn 5 .neq 3 4,mv 2 5]) .ret) def cn:List Q0:=[.tmp 2]
def Us (Γ:Env) (f:Nat):Prop:=∀ (x:Int),EvN Γ f [V.int x] (V.bool false)
theorem ai5 {Γ:Env} {f:Nat} (h:Has Γ.P f 6 adr cn) :Us Γ f:=by
 intro x
 refine Qc h zsi zcl zcl fun C hC hm=>?_
 subst hC
 unfold adr
 refine zgo ?_;repeat' first|exact zt|apply zan|intro hc
 all_goals first|exact zr|(refine Qr _ rfl ?_;simp only [go_sem];simp;done)
def aaY (JI:Nat):AC:=Qb [0,1] (.reg [mc 4 (V.int 0)]) (Qb [0,1,5] (.reg [mv 7 0,cl 8 JI [7],mv 5 8]) (Qb [0,1,5,6] (.reg [mv 9 1,cl 10 JI [9],mv 6 10]) (Qb [0,1,6] (Qb [0,1,6,11] (.reg [mv 11 5]) (.cond (.t 11) (Qb [] (Qb [12] (.reg [mv 12 6]) (.cond (.t 12) (Qb [4] (.reg [mc 4 (V.int 0)]) .ret) .skip)) (Qb [4] (.reg [mc 4 (V.int (-1))]) .ret)) .skip)) (Qb [0,1] (Qb [0,1,13] (.reg [mv 13 6]) (.cond (.t 13) (Qb [4] (.reg [mc 4 (V.int 1)]) .ret) .skip)) (Qb [0,1] (Qb [0,1,16] (.reg [mv 14 0,mv 15 1,bn 16 .lss 14 15]) (.cond (.t 16) (Qb [4] (.reg [mc 4 (V.int (-1))]) .ret) .skip)) (Qb [] (Qb [19] (.reg [mv 17 0,mv 18 1,bn 19 .gtr 17 18]) (.cond (.t 19) (Qb [4] (.reg [mc 4 (V.int 1)]) .ret) .skip)) (Qb [4] (.reg [mc 4 (V.int 0)]) .ret))))))) def co:List Q0:=[.tmp 4]
def Ws (Γ:Env) (f:Nat):Prop:=∀ (x y:Int),EvN Γ f [V.int x,V.int y] (V.int (WN x y))
theorem agr {Γ:Env} {f JI:Nat} (h:Has Γ.P f 20 (aaY JI) co) (z0:Us Γ JI):Ws Γ f:=by
 intro x y
 refine Qc h zsi zcl zcl fun C hC hm=>?_
 subst hC
 unfold aaY
 by_cases h1:x < y
 ·have e1:decide (x < y) = true:=zn h1
  rw [WN,if_pos h1]
  (have zx:=e1);exact zg
 ·have e1:decide (x < y) = false:=zv h1
  by_cases h2:x > y
  ·have e2:decide (x > y) = true:=zn h2
   rw [WN,if_neg h1,if_pos h2]
   (have zx:=za e1 e2);exact zg
  ·have e2:decide (x > y) = false:=zv h2
   rw [WN,if_neg h1,if_neg h2]
   (have zx:=za e1 e2);exact zg
def jo:List (List Nat):=[[],[],[0,1],[],[],[3,4,2],[2,5,5],[6,6,0,1,2,3,4,5,6]]
def qW:OT:=och 0 8
@[go_sem] def Vr (Qf:Nat):OP:=oN 0 (ld 4 1 0) (oN 1 (xo 5 (.load true 11 (.t 1))) (.one 2 true [] (xo 6 (.callv (.t 4) [(.t 5)])) (oN 3 (ld 7 1 0) (oN 4 (xo 8 (.load true 11 (.t 2))) (.one 5 true [] (xo 9 (.callv (.t 7) [(.t 8)])) (.one 6 false [5,2] (cl 10 Qf [6,9]) (oN 7 (mv 3 10) .done)))))))
def jd (Qf:Nat):List AO:=aoO (Vr Qf)
instance (Qf:Nat):RG [2,5] qW (Vr Qf) (jd Qf) jo 8 (fun _=>true):=⟨rfl,by kernel_rfl,by kernel_rfl⟩
def xv (Qf:Nat):AC:=Qb [0,1,2] (.reg [mc 3 (V.int 0)]) (Qb [3] (VD [2,5] qW (Vr Qf) (jd Qf) jo) .ret) def cr:List Q0:=[.tmp 3]
def WA (Γ:Env) (f:Nat):Prop:=∀ (a b:Qa) (g:Nat) (p:Qa→Int) (hg:∀ x:Qa,EvN Γ g [x.v] (V.int (p x))),EvN Γ f [.ro [.clo (.n g) []] 0,.ro a.cells 0,.ro b.cells 0] (V.int (WN (p a) (p b)))
theorem aeo {Γ:Env} {f Qf:Nat} (h:Has Γ.P f 11 (xv Qf) cr) (z0:Ws Γ Qf):WA Γ f:=by
 intro a b g p hg
 refine Qc h zsi zcl zcl fun C hC hm=>?_
 subst hC
 unfold xv
 have g1:=(hg a).b
 have g2:=(hg b).b
 have g3:=(z0 (p a) (p b)).b
 simp only [Qa.v,Qa.cells] at g1 g2 ⊢
 exact zg
def jn:List (List Nat):=[[],[],[0,1],[],[],[3,4,2],[2,5,5],[6,6,0,1,2,3,4,5,6]]
def qV:OT:=och 0 8
@[go_sem] def Vq (Qp:Nat):OP:=oN 0 (ld 4 1 0) (oN 1 (xo 5 (.load true 11 (.t 1))) (.one 2 true [] (xo 6 (.callv (.t 4) [(.t 5)])) (oN 3 (ld 7 1 0) (oN 4 (xo 8 (.load true 11 (.t 2))) (.one 5 true [] (xo 9 (.callv (.t 7) [(.t 8)])) (.one 6 false [5,2] (cl 10 Qp [6,9]) (oN 7 (mv 3 10) .done)))))))
def jc (Qp:Nat):List AO:=aoO (Vq Qp)
instance (Qp:Nat):RG [2,5] qV (Vq Qp) (jc Qp) jn 8 (fun _=>true):=⟨rfl,by kernel_rfl,by kernel_rfl⟩
def xu (Qp:Nat):AC:=Qb [0,1,2] (.reg [mc 3 (V.int 0)]) (Qb [3] (VD [2,5] qV (Vq Qp) (jc Qp) jn) .ret) def ct:List Q0:=[.tmp 3]
def Wz (Γ:Env) (f:Nat):Prop:=∀ (a b:Qa) (g:Nat) (p:Qa→List UInt8) (hg:∀ x:Qa,EvN Γ g [x.v] (V.str (p x))),EvN Γ f [.ro [.clo (.n g) []] 0,.ro a.cells 0,.ro b.cells 0] (V.int (abi (p a) (p b)))
theorem aen {Γ:Env} {f Qp:Nat} (h:Has Γ.P f 11 (xu Qp) ct) (z0:KC Γ Qp):Wz Γ f:=by
 intro a b g p hg
 refine Qc h zsi zcl zcl fun C hC hm=>?_
 subst hC
 unfold xu
 have g1:=(hg a).b
 have g2:=(hg b).b
 have g3:=(z0 (p a) (p b)).b
 simp only [Qa.v,Qa.cells] at g1 g2 ⊢
 exact zg
def aaT (X6:Nat):AC:=Qb [1,2,3] (.reg [xo 3 (.box false 1 (.t 0)),mc 4 (.sc .nilFunc)]) (Qb [4] (.reg [xo 5 (.mkfn X6 [(.t 3),(.t 1),(.t 2)]),mv 4 5]) .ret) def cu:List Q0:=[.tmp 4]
def KV (Γ:Env) (f:Nat):Prop:=(∃ g1:Nat,WA Γ g1∧∀ (a b:Qa) (g:Nat),EvC Γ f [.clo (.n g) [],.ro a.cells 0,.ro b.cells 0] (.clo (.n g1) [.ro [.clo (.n g) []] 0,.ro a.cells 0,.ro b.cells 0]))
theorem agm {Γ:Env} {f X6:Nat} (h:Has Γ.P f 6 (aaT X6) cu) (z0:WA Γ X6):KV Γ f:=by
 refine ⟨X6,z0,fun a b g=>?_⟩
 refine Ju h (by simp) (by simp only [V.closed,Qh,and_self]) fun C hC hm=>?_
 subst hC
 unfold aaT
 simp only [Qa.cells]
 exact zg
def aaS (X5:Nat):AC:=Qb [1,2,3] (.reg [xo 3 (.box false 1 (.t 0)),mc 4 (.sc .nilFunc)]) (Qb [4] (.reg [xo 5 (.mkfn X5 [(.t 3),(.t 1),(.t 2)]),mv 4 5]) .ret) def cw:List Q0:=[.tmp 4]
def KU (Γ:Env) (f:Nat):Prop:=(∃ g1:Nat,Wz Γ g1∧∀ (a b:Qa) (g:Nat),EvC Γ f [.clo (.n g) [],.ro a.cells 0,.ro b.cells 0] (.clo (.n g1) [.ro [.clo (.n g) []] 0,.ro a.cells 0,.ro b.cells 0]))
theorem agl {Γ:Env} {f X5:Nat} (h:Has Γ.P f 6 (aaS X5) cw) (z0:Wz Γ X5):KU Γ f:=by
 refine ⟨X5,z0,fun a b g=>?_⟩
 refine Ju h (by simp) (by simp only [V.closed,Qh,and_self]) fun C hC hm=>?_
 subst hC
 unfold aaS
 simp only [Qa.cells]
 exact zg
def aaR:AC:=Qb [1] (.reg [xo 1 (.box true 11 (.t 0)),mc 2 (V.str [])]) (Qb [2] (.reg [fa 3 1 1,ld 4 1 3,mv 2 4]) .ret) def cz:List Q0:=[.tmp 2]
def KT (Γ:Env) (f:Nat):Prop:=∀ (x:Qa),EvN Γ f [x.v] (V.str x.host)
theorem agk {Γ:Env} {f:Nat} (h:Has Γ.P f 5 aaR cz) :KT Γ f:=by
 intro x
 refine Qc h zsi zcl zcl fun C hC hm=>?_
 subst hC
 unfold aaR
 simp only [Qa.v,Qa.cells]
 exact zg
def aaQ:AC:=Qb [1] (.reg [xo 1 (.box true 11 (.t 0)),mc 2 (V.int 0)]) (Qb [2] (.reg [fa 3 2 1,ld 4 1 3,mv 2 4]) .ret) def cA:List Q0:=[.tmp 2]
def KS (Γ:Env) (f:Nat):Prop:=∀ (x:Qa),EvN Γ f [x.v] (V.int x.mach)
theorem agj {Γ:Env} {f:Nat} (h:Has Γ.P f 5 aaQ cA) :KS Γ f:=by
 intro x
 refine Qc h zsi zcl zcl fun C hC hm=>?_
 subst hC
 unfold aaQ
 simp only [Qa.v,Qa.cells]
 exact zg
def aaP:AC:=Qb [1] (.reg [xo 1 (.box true 11 (.t 0)),mc 2 (V.int 0)]) (Qb [2] (.reg [fa 3 3 1,ld 4 1 3,mv 2 4]) .ret) def cB:List Q0:=[.tmp 2]
def KR (Γ:Env) (f:Nat):Prop:=∀ (x:Qa),EvN Γ f [x.v] (V.int x.day)
theorem agi {Γ:Env} {f:Nat} (h:Has Γ.P f 5 aaP cB) :KR Γ f:=by
 intro x
 refine Qc h zsi zcl zcl fun C hC hm=>?_
 subst hC
 unfold aaP
 simp only [Qa.v,Qa.cells]
 exact zg
def aaO:AC:=Qb [1] (.reg [xo 1 (.box true 11 (.t 0)),mc 2 (V.str [])]) (Qb [2] (.reg [fa 3 6 1,ld 4 1 3,mv 2 4]) .ret) def cC:List Q0:=[.tmp 2]
def KQ (Γ:Env) (f:Nat):Prop:=∀ (x:Qa),EvN Γ f [x.v] (V.str x.subj)
theorem agh {Γ:Env} {f:Nat} (h:Has Γ.P f 5 aaO cC) :KQ Γ f:=by
 intro x
 refine Qc h zsi zcl zcl fun C hC hm=>?_
 subst hC
 unfold aaO
 simp only [Qa.v,Qa.cells]
 exact zg
def aaN:AC:=Qb [1] (.reg [xo 1 (.box true 11 (.t 0)),mc 2 (V.int 0)]) (Qb [2] (.reg [fa 3 5 1,ld 4 1 3,mv 2 4]) .ret) def cD:List Q0:=[.tmp 2]
def KP (Γ:Env) (f:Nat):Prop:=∀ (x:Qa),EvN Γ f [x.v] (V.int x.kind)
theorem agf {Γ:Env} {f:Nat} (h:Has Γ.P f 5 aaN cD) :KP Γ f:=by
 intro x
 refine Qc h zsi zcl zcl fun C hC hm=>?_
 subst hC
 unfold aaN
 simp only [Qa.v,Qa.cells]
 exact zg
def aaM:AC:=Qb [1] (.reg [xo 1 (.box true 11 (.t 0)),mc 2 (V.int 0)]) (Qb [2] (.reg [fa 3 7 1,fa 4 0 3,ld 5 1 4,mv 2 5]) .ret) def cE:List Q0:=[.tmp 2]
def KO (Γ:Env) (f:Nat):Prop:=∀ (x:Qa),EvN Γ f [x.v] (V.int x.alg)
theorem agd {Γ:Env} {f:Nat} (h:Has Γ.P f 6 aaM cE) :KO Γ f:=by
 intro x
 refine Qc h zsi zcl zcl fun C hC hm=>?_
 subst hC
 unfold aaM
 simp only [Qa.v,Qa.cells]
 exact zg
def aaL:AC:=Qb [1] (.reg [xo 1 (.box true 11 (.t 0)),mc 2 (V.int 0)]) (Qb [2] (.reg [fa 3 7 1,fa 4 1 3,ld 5 1 4,mv 2 5]) .ret) def cF:List Q0:=[.tmp 2]
def KN (Γ:Env) (f:Nat):Prop:=∀ (x:Qa),EvN Γ f [x.v] (V.int x.bits)
theorem agc {Γ:Env} {f:Nat} (h:Has Γ.P f 6 aaL cF) :KN Γ f:=by
 intro x
 refine Qc h zsi zcl zcl fun C hC hm=>?_
 subst hC
 unfold aaL
 simp only [Qa.v,Qa.cells]
 exact zg
def wL:AC:=Qb [1] (.reg [xo 1 (.box true 11 (.t 0)),mc 2 (V.int 0)]) (Qb [2] (.reg [fa 3 9 1,ld 4 1 3,mv 2 4]) .ret) def cG:List Q0:=[.tmp 2]
def UM (Γ:Env) (f:Nat):Prop:=∀ (x:Qa),EvN Γ f [x.v] (V.int x.num)
theorem afi {Γ:Env} {f:Nat} (h:Has Γ.P f 5 wL cG) :UM Γ f:=by
 intro x
 refine Qc h zsi zcl zcl fun C hC hm=>?_
 subst hC
 unfold wL
 simp only [Qa.v,Qa.cells]
 exact zg
def wK:AC:=Qb [1] (.reg [xo 1 (.box true 11 (.t 0)),mc 2 (V.str [])]) (Qb [2] (.reg [fa 3 10 1,ld 4 1 3,mv 2 4]) .ret) def cH:List Q0:=[.tmp 2]
def UL (Γ:Env) (f:Nat):Prop:=∀ (x:Qa),EvN Γ f [x.v] (V.str x.text)
theorem afh {Γ:Env} {f:Nat} (h:Has Γ.P f 5 wK cH) :UL Γ f:=by
 intro x
 refine Qc h zsi zcl zcl fun C hC hm=>?_
 subst hC
 unfold wK
 simp only [Qa.v,Qa.cells]
 exact zg
def wJ:AC:=Qb [1] (.reg [xo 1 (.box true 11 (.t 0)),mc 2 (V.int 0)]) (Qb [2] (.reg [fa 3 0 1,ld 4 1 3,mv 2 4]) .ret) def cI:List Q0:=[.tmp 2]
def UK (Γ:Env) (f:Nat):Prop:=∀ (x:Qa),EvN Γ f [x.v] (V.int x.src)
theorem afg {Γ:Env} {f:Nat} (h:Has Γ.P f 5 wJ cI) :UK Γ f:=by
 intro x
 refine Qc h zsi zcl zcl fun C hC hm=>?_
 subst hC
 unfold wJ
 simp only [Qa.v,Qa.cells]
 exact zg
def wI:AC:=Qb [1] (.reg [xo 1 (.box true 11 (.t 0)),mc 2 (V.int 0)]) (Qb [2] (.reg [fa 3 4 1,ld 4 1 3,mv 2 4]) .ret) def cJ:List Q0:=[.tmp 2]
def UJ (Γ:Env) (f:Nat):Prop:=∀ (x:Qa),EvN Γ f [x.v] (V.int x.conf)
theorem aff {Γ:Env} {f:Nat} (h:Has Γ.P f 5 wI cJ) :UJ Γ f:=by
 intro x
 refine Qc h zsi zcl zcl fun C hC hm=>?_
 subst hC
 unfold wI
 simp only [Qa.v,Qa.cells]
 exact zg
def clC (a b:Qa) (q g:Nat):V:=.clo (.n q) [.ro [.clo (.n g) []] 0,.ro a.cells 0,.ro b.cells 0]
def ayB (a b:Qa) (g1 g2 f3 f4 f5 f6 f7 f8 f9 f10 f11 f12 f13:Nat):List V:=[clC a b g2 f3,clC a b g1 f4,clC a b g1 f5,clC a b g2 f6,clC a b g1 f7,clC a b g1 f8,clC a b g1 f9,clC a b g1 f10,clC a b g2 f11,clC a b g1 f12,clC a b g1 f13]
theorem xk (a b:Qa) (g:Nat):Qh [.ro [.clo (.n g) []] 0,.ro a.cells 0,.ro b.cells 0]:=by simp only [V.closed,Qh,and_self]
theorem akb {l:List Int} {k:Nat} {v:Int} (h:l[k]? = some v):Jt (l.drop k) = if v≠0 then v else Jt (l.drop (k + 1)):=by
 obtain ⟨hk,he⟩:=zh.1 h
 rw [ka hk,he,Jt]
def ado (VN VM J1 J0 JZ JY JX JV JU JA Jz Jy Jx:Nat):AC:=Qb [2,3] (.reg [xo 2 (.box true 11 (.t 0)),xo 3 (.box true 11 (.t 1)),mc 4 (V.int 0)]) (Qb [2,3,5] (.reg [xo 10 (.mkfn VN [(.t 2),(.t 3)]),mv 5 10]) (Qb [5,6] (.reg [xo 11 (.mkfn VM [(.t 2),(.t 3)]),mv 6 11]) (Qb [] (Qb [34,35,36] (.reg [mv 12 6,xo 13 (.callv (.t 12) [(.c (.clo J1 []))]),mv 14 5,xo 15 (.callv (.t 14) [(.c (.clo J0 []))]),mv 16 5,xo 17 (.callv (.t 16) [(.c (.clo JZ []))]),mv 18 6,xo 19 (.callv (.t 18) [(.c (.clo JY []))]),mv 20 5,xo 21 (.callv (.t 20) [(.c (.clo JX []))]),mv 22 5,xo 23 (.callv (.t 22) [(.c (.clo JV []))]),mv 24 5,xo 25 (.callv (.t 24) [(.c (.clo JU []))]),mv 26 5,xo 27 (.callv (.t 26) [(.c (.clo JA []))]),mv 28 6,xo 29 (.callv (.t 28) [(.c (.clo Jz []))]),mv 30 5,xo 31 (.callv (.t 30) [(.c (.clo Jy []))]),mv 32 5,xo 33 (.callv (.t 32) [(.c (.clo Jx []))]),xo 34 (.bslice 11 1 false [.nilFunc] [(0,(.t 13)),(1,(.t 15)),(2,(.t 17)),(3,(.t 19)),(4,(.t 21)),(5,(.t 23)),(6,(.t 25)),(7,(.t 27)),(8,(.t 29)),(9,(.t 31)),(10,(.t 33))]),ln 35 34,mc 36 (V.int 0)]) (.block 0 (JG [34,35,36] (Qb [34,35,36,37] (.reg [bn 37 .lss 36 35]) (Qb [34,35,36] (.cond (.t 37) .skip (.exit 0)) (Qb [34,35,36] (.block 1 (Qb [8,34,35,36] (.reg [ia 38 1 34 36,ld 39 1 38,mv 8 39]) (Qb [9,34,35,36] (.reg [mv 40 8,xo 41 (.callv (.t 40) []),mv 9 41]) (Qb [9,34,35,36,43] (.reg [mv 42 9,bc 43 .neq 42 (V.int 0)]) (.cond (.t 43) (Qb [4] (.reg [mv 44 9,mv 4 44]) .ret) .skip))))) (.reg [bc 45 .add 36 (V.int 1),mv 36 45]))))))) (Qb [4] (.reg [mc 4 (V.int 0)]) .ret)))) def cK:List Q0:=[.tmp 4]
def jP (Γ:Env) (f:Nat):Prop:=∀ (a b:Qa),EvN Γ f [a.v,b.v] (V.int (aiP a b))
attribute [local go_sem] Y1 in
theorem ai2 {Γ:Env} {f VN VM J1 J0 JZ JY JX JV JU JA Jz Jy Jx:Nat} (h:Has Γ.P f 46 (ado VN VM J1 J0 JZ JY JX JV JU JA Jz Jy Jx) cK) (z0:KV Γ VN) (z1:KU Γ VM) (z2:KT Γ J1) (z3:KS Γ J0) (z4:KR Γ JZ) (z5:KQ Γ JY) (z6:KP Γ JX) (z7:KO Γ JV) (z8:KN Γ JU) (z9:UM Γ JA) (z10:UL Γ Jz) (z11:UK Γ Jy) (z12:UJ Γ Jx):jP Γ f:=by
 intro a b
 refine Qc h zsi zcl zcl fun C hC hm=>?_
 subst hC
 unfold ado
 obtain ⟨g1,c1,hO1⟩:=z0
 obtain ⟨g2,c2,hO2⟩:=z1
 have y3:=hO2 a b J1
 have y4:=hO1 a b J0
 have y5:=hO1 a b JZ
 have y6:=hO2 a b JY
 have y7:=hO1 a b JX
 have y8:=hO1 a b JV
 have y9:=hO1 a b JU
 have y10:=hO1 a b JA
 have y11:=hO2 a b Jz
 have y12:=hO1 a b Jy
 have y13:=hO1 a b Jx
 have hel:∀ k,k < 11→∃ (g:Nat) (cap:List V) (v:Int),(ayB a b g1 g2 J1 J0 JZ JY JX JV JU JA Jz Jy Jx)[k]? = some (.clo (.n g) cap)∧Qh cap∧(axp a b)[k]? = some v∧EvN C.env g cap (V.int v):=fun k hk=>by
  match k,hk with
  | 0,_=>exact ⟨_,_,_,rfl,xk a b _,rfl,c2 a b _ (fun x=>x.host) z2⟩
  | 1,_=>exact ⟨_,_,_,rfl,xk a b _,rfl,c1 a b _ (fun x=>x.mach) z3⟩
  | 2,_=>exact ⟨_,_,_,rfl,xk a b _,rfl,c1 a b _ (fun x=>x.day) z4⟩
  | 3,_=>exact ⟨_,_,_,rfl,xk a b _,rfl,c2 a b _ (fun x=>x.subj) z5⟩
  | 4,_=>exact ⟨_,_,_,rfl,xk a b _,rfl,c1 a b _ (fun x=>x.kind) z6⟩
  | 5,_=>exact ⟨_,_,_,rfl,xk a b _,rfl,c1 a b _ (fun x=>x.alg) z7⟩
  | 6,_=>exact ⟨_,_,_,rfl,xk a b _,rfl,c1 a b _ (fun x=>x.bits) z8⟩
  | 7,_=>exact ⟨_,_,_,rfl,xk a b _,rfl,c1 a b _ (fun x=>x.num) z9⟩
  | 8,_=>exact ⟨_,_,_,rfl,xk a b _,rfl,c2 a b _ (fun x=>x.text) z10⟩
  | 9,_=>exact ⟨_,_,_,rfl,xk a b _,rfl,c1 a b _ (fun x=>x.src) z11⟩
  | 10,_=>exact ⟨_,_,_,rfl,xk a b _,rfl,c1 a b _ (fun x=>x.conf) z12⟩
 have hlen:(ayB a b g1 g2 J1 J0 JZ JY JX JV JU JA Jz Jy Jx).length = 11:=rfl
 have hoL:(axp a b).length = 11:=rfl
 have hoF:aiP a b = Jt (axp a b):=rfl
 simp only [Qa.v,Qa.cells] at y3 y4 y5 y6 y7 y8 y9 y10 y11 y12 y13 ⊢
 repeat' (first|(refine zsk ?_;intro K' hK)|refine zsp ?_|(refine zsc ?_ ?_<;>intro hc<;>first|exact znh|try simp only [znz] at hc)|simp (maxSteps:=1000000) only [go_sem]|(refine hK _ ?_;clear hK K')|apply zan|(apply aw5;(focus first|exact y3|exact y4|exact y5|exact y6|exact y7|exact y8|exact y9|exact y10|exact y11|exact y12|exact y13))|(apply QR;(focus first|exact (z2 _).b|exact (z3 _).b|exact (z4 _).b|exact (z5 _).b|exact (z6 _).b|exact (z7 _).b|exact (z8 _).b|exact (z9 _).b|exact (z10 _).b|exact (z11 _).b|exact (z12 _).b))|exact zsq|fail)
 clear y3 y4 y5 y6 y7 y8 y9 y10 y11 y12 y13
 refine QC (ι:=Nat) (fun k=>k≤11∧Jt ((axp a b).drop k) = aiP a b) (fun k=>Y1 [(34,.hd 0 0 11),(35,V.int 11),(36,V.int k)] [(0,.buf true 1 (ayB a b g1 g2 J1 J0 JZ JY JX JV JU JA Jz Jy Jx))] 1) (fun k=>11 - k) 0 ⟨by omega,rfl⟩ (Qi [(0,29000)]) (Qv [(0,29000)] zwa (by simp only [go_sem,zwl,ayB,clC,Qa.cells]<;>exact zcc) (by simp) (by simp;omega) (by omega)) fun k hk K' hL=>?_
 obtain ⟨hk,hinv⟩:=hk
 generalize (ayB a b g1 g2 J1 J0 JZ JY JX JV JU JA Jz Jy Jx) = els at *
 by_cases hkk:k < 11
 ·obtain ⟨g,cap,v,e1,e2,e3,e4⟩:=hel k hkk
  have s1:∀ o,Y2 o cap = cap:=fun o=>Wo o cap e2
  have s2:∀ o B,QL o B cap = True:=fun o B=>eq_true (Xi o B cap e2)
  have hw:=Qq (k:=k) (by omega)
  have e5:decide ((k:Int) < 11) = true:=zn (by omega)
  have e6:=akb e3
  rw [hinv] at e6
  by_cases hv:v = 0
  ·subst hv
   rw [if_neg (by simp)] at e6
   (have zy0:=e4.b;have zx:=za e5 (za e1 (za s1 (za s2 hw))));refine zgo ?_;repeat' first|exact zt|apply zan|intro hc
   all_goals exact hL _ (k + 1) (Qi [(0,0)]) ⟨by omega,e6.symm⟩ (by omega) (zwg [(0,0)])
  ·rw [if_pos hv] at e6
   have e7:(v != 0) = true:=by simpa using hv
   rw [e6]
   (have zy0:=e4.b;have zx:=za e5 (za e1 (za s1 (za s2 (za hw e7)))));exact zg
 ·have e5:decide ((k:Int) < 11) = false:=zv (by omega)
  have hk2:k = 11:=by omega
  subst hk2
  have e6:aiP a b = 0:=by rw [← hinv];rfl
  rw [e6]
  (have zx:=e5);exact zg
def amB (f:Qa):Bool:=f.alg == 0 && f.bits == 0
def Ky (f:Qa):Bool :=
 if f.kind = 1∨f.kind = 8 then decide (Q4 f.alg f.bits > 0) && f.num == 0 && f.text == []
 else if f.kind = 2 then amB f && f.text == [] && decide (f.num≥0) && decide (f.num≤65535)
 else if f.kind = 3 then decide (Q4 f.alg f.bits > 0) && (X7 f.alg).kind == 2 && decide (f.num≥0) && decide (f.num≤2147483648) && f.text == []
 else if f.kind = 4∨f.kind = 5 then amB f && f.text == [] && decide (f.num≥1) && decide (f.num≤4)
 else if f.kind = 6 then amB f && f.text == [] && decide (f.num≥0) && decide (f.num≤2147483648)
 else if f.kind = 7 then amB f && f.num == 0 && Q8 f.text
 else false
def Yg (f:Qa):Bool:=Q8 f.host && Q8 f.subj && decide (f.mach≥0) && decide (f.mach≤1099511627776) && (decide (f.day≥0) && decide (f.day≤40000) && decide (f.conf≥1) && decide (f.conf≤100)) && !decide (f.src < 1) && !decide (f.src > 7) && Ky f
def aaK (Yd qQ Ye:Nat):AC:=Qb [1] (.reg [xo 1 (.box true 11 (.t 0)),mc 2 (V.bool false)]) (Qb [1,3] (.reg [fa 4 7 1,xo 5 (.load true 2 (.t 4)),xo 6 (.build [vi0,vi0] []),xo 7 (.eqagg false [0,0] (.t 5) (.t 6)),mv 8 7,xg 9 (.faddr 10 (.t 1)) 8 true,xg 10 (.load false 1 (.t 9)) 8 true,xg 11 (.bin .eql (.t 10) (.c (V.str []))) 8 true,xo 12 (.pick (.t 8) (.t 11) (.c (V.bool false))),mv 3 12]) (Qb [] (Qb [1,3,14] (.reg [fa 13 5 1,ld 14 1 13]) (.block 0 (Qb [1,3,14,15] (Qb [1,3,14,15] (.reg [bc 16 .eql 14 (V.int 1),mv 15 16]) (.cond (.t 15) .skip (.reg [bc 17 .eql 14 (V.int 8),mv 15 17]))) (.cond (.t 15) (Qb [2] (.reg [fa 18 7 1,xo 19 (.load true 2 (.t 18)),cl 20 Yd [19],mv 21 20,xg 22 (.faddr 9 (.t 1)) 21 true,xg 23 (.load false 1 (.t 22)) 21 true,xg 24 (.bin .eql (.t 23) (.c (V.int 0))) 21 true,xo 25 (.pick (.t 21) (.t 24) (.c (V.bool false))),mv 26 25,xg 27 (.faddr 10 (.t 1)) 26 true,xg 28 (.load false 1 (.t 27)) 26 true,xg 29 (.bin .eql (.t 28) (.c (V.str []))) 26 true,xo 30 (.pick (.t 26) (.t 29) (.c (V.bool false))),mv 2 30]) .ret) (Qb [1,3,14,31] (.reg [bc 32 .eql 14 (V.int 2),mv 31 32]) (.cond (.t 31) (Qb [2] (.reg [mv 33 3,mv 34 33,xg 35 (.faddr 9 (.t 1)) 34 true,xg 36 (.load false 1 (.t 35)) 34 true,xg 37 (.bin .geq (.t 36) (.c (V.int 0))) 34 true,xo 38 (.pick (.t 34) (.t 37) (.c (V.bool false))),mv 39 38,xg 40 (.faddr 9 (.t 1)) 39 true,xg 41 (.load false 1 (.t 40)) 39 true,xg 42 (.bin .leq (.t 41) (.c (V.int 65535))) 39 true,xo 43 (.pick (.t 39) (.t 42) (.c (V.bool false))),mv 2 43]) .ret) (Qb [1,3,14,44] (.reg [bc 45 .eql 14 (V.int 3),mv 44 45]) (.cond (.t 44) (Qb [2] (.reg [fa 46 7 1,xo 47 (.load true 2 (.t 46)),cl 48 Yd [47],mv 49 48,xg 50 (.faddr 7 (.t 1)) 49 true,xg 51 (.faddr 0 (.t 50)) 49 true,xg 52 (.load false 1 (.t 51)) 49 true,xg 53 (.call qQ [(.t 52)]) 49 true,xg 54 (.bin .eql (.t 53) (.c (V.int 2))) 49 true,xo 55 (.pick (.t 49) (.t 54) (.c (V.bool false))),mv 56 55,xg 57 (.faddr 9 (.t 1)) 56 true,xg 58 (.load false 1 (.t 57)) 56 true,xg 59 (.bin .geq (.t 58) (.c (V.int 0))) 56 true,xo 60 (.pick (.t 56) (.t 59) (.c (V.bool false))),mv 61 60,xg 62 (.faddr 9 (.t 1)) 61 true,xg 63 (.load false 1 (.t 62)) 61 true,xg 64 (.bin .leq (.t 63) (.c (V.int 2147483648))) 61 true,xo 65 (.pick (.t 61) (.t 64) (.c (V.bool false))),mv 66 65,xg 67 (.faddr 10 (.t 1)) 66 true,xg 68 (.load false 1 (.t 67)) 66 true,xg 69 (.bin .eql (.t 68) (.c (V.str []))) 66 true,xo 70 (.pick (.t 66) (.t 69) (.c (V.bool false))),mv 2 70]) .ret) (Qb [1,3,14,71] (Qb [1,3,14,71] (.reg [bc 72 .eql 14 (V.int 4),mv 71 72]) (.cond (.t 71) .skip (.reg [bc 73 .eql 14 (V.int 5),mv 71 73]))) (.cond (.t 71) (Qb [2] (.reg [mv 74 3,mv 75 74,xg 76 (.faddr 9 (.t 1)) 75 true,xg 77 (.load false 1 (.t 76)) 75 true,xg 78 (.bin .geq (.t 77) (.c (V.int 1))) 75 true,xo 79 (.pick (.t 75) (.t 78) (.c (V.bool false))),mv 80 79,xg 81 (.faddr 9 (.t 1)) 80 true,xg 82 (.load false 1 (.t 81)) 80 true,xg 83 (.bin .leq (.t 82) (.c (V.int 4))) 80 true,xo 84 (.pick (.t 80) (.t 83) (.c (V.bool false))),mv 2 84]) .ret) (Qb [1,3,14,85] (.reg [bc 86 .eql 14 (V.int 6),mv 85 86]) (.cond (.t 85) (Qb [2] (.reg [mv 87 3,mv 88 87,xg 89 (.faddr 9 (.t 1)) 88 true,xg 90 (.load false 1 (.t 89)) 88 true,xg 91 (.bin .geq (.t 90) (.c (V.int 0))) 88 true,xo 92 (.pick (.t 88) (.t 91) (.c (V.bool false))),mv 93 92,xg 94 (.faddr 9 (.t 1)) 93 true,xg 95 (.load false 1 (.t 94)) 93 true,xg 96 (.bin .leq (.t 95) (.c (V.int 2147483648))) 93 true,xo 97 (.pick (.t 93) (.t 96) (.c (V.bool false))),mv 2 97]) .ret) (Qb [1,98] (.reg [bc 99 .eql 14 (V.int 7),mv 98 99]) (.cond (.t 98) (Qb [2] (.reg [fa 100 7 1,xo 101 (.load true 2 (.t 100)),xo 102 (.build [vi0,vi0] []),xo 103 (.eqagg false [0,0] (.t 101) (.t 102)),mv 104 103,xg 105 (.faddr 9 (.t 1)) 104 true,xg 106 (.load false 1 (.t 105)) 104 true,xg 107 (.bin .eql (.t 106) (.c (V.int 0))) 104 true,xo 108 (.pick (.t 104) (.t 107) (.c (V.bool false))),mv 109 108,xg 110 (.faddr 10 (.t 1)) 109 true,xg 111 (.load false 1 (.t 110)) 109 true,xg 112 (.call Ye [(.t 111)]) 109 true,xo 113 (.pick (.t 109) (.t 112) (.c (V.bool false))),mv 2 113]) .ret) .skip)))))))))))))) (Qb [2] (.reg [mc 2 (V.bool false)]) .ret))) def cL:List Q0:=[.tmp 2]
def KM (Γ:Env) (f:Nat):Prop:=∀ (f0:Qa) (ht:f0.text.length < 2 ^ 60),EvN Γ f [f0.v] (V.bool (Ky f0))
theorem agb {Γ:Env} {f Yd qQ Ye:Nat} (h:Has Γ.P f 114 (aaK Yd qQ Ye) cL) (z0:Ut Γ Yd) (z1:xM Γ qQ) (z2:Uu Γ Ye):KM Γ f:=by
 intro f0 ht
 refine Qc h zsi zcl zcl fun C hC hm=>?_
 subst hC
 unfold aaK
 obtain ⟨src,host,mach,day,conf,kind,subj,alg,bits,num,text⟩:=f0
 have hN:=(z2 text ht).b
 simp only [Ky,amB,Qa.v,Qa.cells] at *
 generalize hv:decide (Q4 alg bits > 0) = vv
 generalize hk:(X7 alg).kind = kk
 generalize hkb:(kk == 2) = kb
 generalize hd0:decide (num≥0) = d0
 generalize hd1:decide (num≤65535) = d1
 generalize hd2:decide (num≤2147483648) = d2
 generalize hd3:decide (num≥1) = d3
 generalize hd4:decide (num≤4) = d4
 generalize hnn:Q8 text = nn at *
 generalize ha:(alg == 0) = a0
 generalize hb:(bits == 0) = b0
 generalize htx:(text == []) = t0
 generalize hnm:(num == 0) = n0
 have E:∀ n:Int,kind≠n→(kind == n) = false:=fun n h=>by simpa using h
 by_cases k1:kind = 1
 ·subst k1
  repeat' (first|(refine zsk ?_;intro K' hK)|refine zsp ?_|(refine zsc ?_ ?_<;>intro hc<;>first|exact znh|try simp only [znz] at hc)|simp (maxSteps:=1000000) only [go_sem,hv,hk,hkb,ha,hb,htx,hnm,hd0,hd1,hd2,hd3,hd4]|(refine hK _ ?_;clear hK K')|apply zan|(apply QR;(focus first|exact (z0 _ _).b|exact (z1 _).b|exact (z2 _ zsd).b))|exact zsq|fail)
  all_goals (refine Qr _ rfl ?_;simp only [go_sem];simp_all;done)
 by_cases k8:kind = 8
 ·subst k8
  (have zx:=za hv (za hk (za hkb (za ha (za hb (za htx (za hnm (za hd0 (za hd1 (za hd2 (za hd3 hd4)))))))))));refine zgo ?_;repeat' first|exact zt|apply zan|intro hc
  all_goals (refine Qr _ rfl ?_;simp only [go_sem];simp_all;done)
 by_cases k2:kind = 2
 ·subst k2
  (have zx:=za hv (za hk (za hkb (za ha (za hb (za htx (za hnm (za hd0 (za hd1 (za hd2 (za hd3 hd4)))))))))));refine zgo ?_;repeat' first|exact zt|apply zan|intro hc
  all_goals (refine Qr _ rfl ?_;simp only [go_sem];simp_all;done)
 by_cases k3:kind = 3
 ·subst k3
  (have zx:=za hv (za hk (za hkb (za ha (za hb (za htx (za hnm (za hd0 (za hd1 (za hd2 (za hd3 hd4)))))))))));refine zgo ?_;repeat' first|exact zt|apply zan|intro hc
  all_goals (refine Qr _ rfl ?_;simp only [go_sem];simp_all;done)
 by_cases k4:kind = 4
 ·subst k4
  (have zx:=za hv (za hk (za hkb (za ha (za hb (za htx (za hnm (za hd0 (za hd1 (za hd2 (za hd3 hd4)))))))))));refine zgo ?_;repeat' first|exact zt|apply zan|intro hc
  all_goals (refine Qr _ rfl ?_;simp only [go_sem];simp_all;done)
 by_cases k5:kind = 5
 ·subst k5
  (have zx:=za hv (za hk (za hkb (za ha (za hb (za htx (za hnm (za hd0 (za hd1 (za hd2 (za hd3 hd4)))))))))));refine zgo ?_;repeat' first|exact zt|apply zan|intro hc
  all_goals (refine Qr _ rfl ?_;simp only [go_sem];simp_all;done)
 by_cases k6:kind = 6
 ·subst k6
  (have zx:=za hv (za hk (za hkb (za ha (za hb (za htx (za hnm (za hd0 (za hd1 (za hd2 (za hd3 hd4)))))))))));refine zgo ?_;repeat' first|exact zt|apply zan|intro hc
  all_goals (refine Qr _ rfl ?_;simp only [go_sem];simp_all;done)
 by_cases k7:kind = 7
 ·subst k7
  (have zx:=za hv (za hk (za hkb (za ha (za hb (za htx (za hnm (za hd0 (za hd1 (za hd2 (za hd3 hd4)))))))))));refine zgo ?_;repeat' first|exact zt|apply zan|intro hc
  all_goals (refine Qr _ rfl ?_;simp only [go_sem];simp_all;done)
 repeat' (first|(refine zsk ?_;intro K' hK)|refine zsp ?_|(refine zsc ?_ ?_<;>intro hc<;>first|exact znh|try simp only [znz] at hc)|simp (maxSteps:=1000000) only [go_sem,hv,hk,hkb,ha,hb,htx,hnm,hd0,hd1,hd2,hd3,hd4,E 1 k1,E 8 k8,E 2 k2,E 3 k3,E 4 k4,E 5 k5,E 6 k6,E 7 k7]|(refine hK _ ?_;clear hK K')|apply zan|(apply QR;(focus first|exact (z0 _ _).b|exact (z1 _).b|exact (z2 _ zsd).b))|exact zsq|fail)
 all_goals (refine Qr _ rfl ?_;simp only [go_sem];simp [*];done)
def adp (Ye VL:Nat):AC:=Qb [1] (.reg [xo 1 (.box true 11 (.t 0)),mc 2 (V.int 0)]) (Qb [1,3] (.reg [fa 5 1 1,ld 6 1 5,cl 7 Ye [6],mv 8 7,xg 9 (.faddr 6 (.t 1)) 8 true,xg 10 (.load false 1 (.t 9)) 8 true,xg 11 (.call Ye [(.t 10)]) 8 true,xo 12 (.pick (.t 8) (.t 11) (.c (V.bool false))),mv 13 12,xg 14 (.faddr 2 (.t 1)) 13 true,xg 15 (.load false 1 (.t 14)) 13 true,xg 16 (.bin .geq (.t 15) (.c (V.int 0))) 13 true,xo 17 (.pick (.t 13) (.t 16) (.c (V.bool false))),mv 18 17,xg 19 (.faddr 2 (.t 1)) 18 true,xg 20 (.load false 1 (.t 19)) 18 true,xg 21 (.bin .leq (.t 20) (.c (V.int 1099511627776))) 18 true,xo 22 (.pick (.t 18) (.t 21) (.c (V.bool false))),mv 3 22]) (Qb [1,3,4] (.reg [fa 23 3 1,ld 24 1 23,bc 25 .geq 24 (V.int 0),mv 26 25,xg 27 (.faddr 3 (.t 1)) 26 true,xg 28 (.load false 1 (.t 27)) 26 true,xg 29 (.bin .leq (.t 28) (.c (V.int 40000))) 26 true,xo 30 (.pick (.t 26) (.t 29) (.c (V.bool false))),mv 31 30,xg 32 (.faddr 4 (.t 1)) 31 true,xg 33 (.load false 1 (.t 32)) 31 true,xg 34 (.bin .geq (.t 33) (.c (V.int 1))) 31 true,xo 35 (.pick (.t 31) (.t 34) (.c (V.bool false))),mv 36 35,xg 37 (.faddr 4 (.t 1)) 36 true,xg 38 (.load false 1 (.t 37)) 36 true,xg 39 (.bin .leq (.t 38) (.c (V.int 100))) 36 true,xo 40 (.pick (.t 36) (.t 39) (.c (V.bool false))),mv 4 40]) (Qb [] (Qb [61] (.reg [mv 41 3,xo 42 (.un .not (.t 41)),mv 43 42,mg 44 4 43 false,xg 45 (.un .not (.t 44)) 43 false,xo 46 (.pick (.t 43) (.c (V.bool true)) (.t 45)),mv 47 46,xg 48 (.faddr 0 (.t 1)) 47 false,xg 49 (.load false 1 (.t 48)) 47 false,xg 50 (.bin .lss (.t 49) (.c (V.int 1))) 47 false,xo 51 (.pick (.t 47) (.c (V.bool true)) (.t 50)),mv 52 51,xg 53 (.faddr 0 (.t 1)) 52 false,xg 54 (.load false 1 (.t 53)) 52 false,xg 55 (.bin .gtr (.t 54) (.c (V.int 7))) 52 false,xo 56 (.pick (.t 52) (.c (V.bool true)) (.t 55)),mv 57 56,xg 58 (.load true 11 (.t 1)) 57 false,xg 59 (.call VL [(.t 58)]) 57 false,xg 60 (.un .not (.t 59)) 57 false,xo 61 (.pick (.t 57) (.c (V.bool true)) (.t 60))]) (.cond (.t 61) (Qb [2] (.reg [mc 2 (V.int 24)]) .ret) .skip)) (Qb [2] (.reg [mc 2 (V.int 0)]) .ret)))) def cM:List Q0:=[.tmp 2]
def Ur (Γ:Env) (f:Nat):Prop:=∀ (f0:Qa) (hh:f0.host.length < 2 ^ 60) (hs:f0.subj.length < 2 ^ 60) (ht:f0.text.length < 2 ^ 60),EvN Γ f [f0.v] (V.int (bif Yg f0 then 0 else 24))
theorem ai3 {Γ:Env} {f Ye VL:Nat} (h:Has Γ.P f 62 (adp Ye VL) cM) (z0:Uu Γ Ye) (z1:KM Γ VL):Ur Γ f:=by
 intro f0 hh hs ht
 refine Qc h zsi zcl zcl fun C hC hm=>?_
 subst hC
 unfold adp
 obtain ⟨src,host,mach,day,conf,kind,subj,alg,bits,num,text⟩:=f0
 have hN1:=(z0 host hh).b
 have hN2:=(z0 subj hs).b
 have hC:=(z1 ⟨src,host,mach,day,conf,kind,subj,alg,bits,num,text⟩ ht).b
 simp only [Yg,Qa.v,Qa.cells] at *
 generalize hd1:decide (mach≥0) = d1
 generalize hd2:decide (mach≤1099511627776) = d2
 generalize hd3:decide (day≥0) = d3
 generalize hd4:decide (day≤40000) = d4
 generalize hd5:decide (conf≥1) = d5
 generalize hd6:decide (conf≤100) = d6
 generalize hd7:decide (src < 1) = d7
 generalize hd8:decide (src > 7) = d8
 generalize Ky ⟨src,host,mach,day,conf,kind,subj,alg,bits,num,text⟩ = cc at *
 generalize Q8 host = n1 at *
 generalize Q8 subj = n2 at *
 (have zx:=za hd1 (za hd2 (za hd3 (za hd4 (za hd5 (za hd6 (za hd7 hd8)))))));refine zgo ?_;repeat' first|exact zt|apply zan|intro hc
 all_goals (refine Qr _ rfl ?_;simp only [go_sem];simp_all;done)
def arG (f:Qa):Prop:=0≤f.day∧f.day≤40000
def ajb (a b:Qa):Int:=if a.day - b.day < b.day - a.day then b.day - a.day else a.day - b.day
def xq:AC:=Qb [2,3] (.reg [xo 2 (.box true 11 (.t 0)),xo 3 (.box true 11 (.t 1)),mc 4 (V.int 0)]) (Qb [4] (.reg [fa 5 3 2,ld 6 1 5,fa 7 3 3,ld 8 1 7,bn 9 .sub 6 8,fa 10 3 3,ld 11 1 10,fa 12 3 2,ld 13 1 12,bn 14 .sub 11 13,xo 15 (.mm true [(.t 9),(.t 14)]),mv 4 15]) .ret) def cN:List Q0:=[.tmp 4]
def Wy (Γ:Env) (f:Nat):Prop:=∀ (a b:Qa) (ha:arG a) (hb:arG b),EvN Γ f [a.v,b.v] (V.int (ajb a b))
theorem ael {Γ:Env} {f:Nat} (h:Has Γ.P f 16 xq cN) :Wy Γ f:=by
 intro a b ha hb
 refine Qc h zsi zcl zcl fun C hC hm=>?_
 subst hC
 unfold xq
 obtain ⟨a1,a2⟩:=ha
 obtain ⟨b1,b2⟩:=hb
 have w1:IntKind.i64.wrap (a.day - b.day) = a.day - b.day:=Q7 (by omega) (by omega)
 have w2:IntKind.i64.wrap (b.day - a.day) = b.day - a.day:=Q7 (by omega) (by omega)
 simp only [Qa.v,Qa.cells,ajb]
 (have zx:=za w1 w2);refine zgo ?_;repeat' first|exact zt|apply zan|intro hc
 all_goals first|exact zr|(refine Qr _ rfl ?_;simp only [go_sem];simp;done)
def aix:AC:=Qb [0] (.reg [mc 2 (V.int 0)]) (Qb [0,3] (.reg [mc 3 (V.int 0)]) (Qb [3] (Qb [3,6,7,8] (.reg [mv 6 0,ln 7 6,mc 8 (V.int 0)]) (.block 0 (JG [3,6,7,8] (Qb [3,6,7,8,9] (.reg [bn 9 .lss 8 7]) (Qb [3,6,7,8] (.cond (.t 9) .skip (.exit 0)) (Qb [3,6,7,8] (.block 1 (Qb [3,5,6,7,8] (.reg [ia 10 1 6 8,ld 11 1 10,mv 5 11]) (Qb [3,5,6,7,8,14] (.reg [mv 12 5,mv 13 3,bn 14 .neq 12 13]) (.cond (.t 14) (Qb [2] (.reg [mv 15 5,mv 2 15]) .ret) .skip)))) (.reg [bc 16 .add 8 (V.int 1),mv 8 16]))))))) (Qb [2] (.reg [mv 17 3,mv 2 17]) .ret))) def cO:List Q0:=[.tmp 2]
def yB (Γ:Env) (f:Nat):Prop:=∀ (l:List Int) (hl:l.length < 2 ^ 60),EvN Γ f [.sl 1 (l.map V.int)] (V.int (Jt l))
theorem ana {Γ:Env} {f:Nat} (h:Has Γ.P f 18 aix cO) :yB Γ f:=by
 intro l hl
 refine Qc h zsi zcl zcl fun C hC hm=>?_
 subst hC
 unfold aix
 refine zgo ?_;repeat' first|exact zt|apply zan|intro hc
 refine Jc (ι:=Nat) (fun k=>k≤l.length∧Jt (l.drop k) = Jt l) (fun k=>[(8,V.int k)]) (fun k=>l.length - k) 0 (by omega) ⟨zG _,rfl⟩ zol zlt zet fun k hk K' hL=>?_
 obtain ⟨hk,hinv⟩:=hk
 simp only [ovT,Xr,Nat.reduceEqDiff,reduceIte]
 rcases hd:l.drop k with _|⟨x,r⟩
 ·have hkl:=QY hd
  have e1:decide ((k:Int) < (((l.map V.int).length:Nat):Int)) = false:=by simp;omega
  rw [hd] at hinv
  have e8:Jt l = 0:=by rw [← hinv];rfl
  rw [e8]
  (have zx:=e1);exact zg
 ·obtain ⟨hk',hget,hr⟩:=QJ hd
  have hw:=Qq (k:=k) (by omega)
  have e1:decide ((k:Int) < (((l.map V.int).length:Nat):Int)) = true:=by simp;omega
  have e6:=akb hget
  rw [hinv] at e6
  by_cases hx:x = 0
  ·subst hx
   rw [if_neg (by simp)] at e6
   (have zx:=za e1 (za hw hget));refine zgo ?_;repeat' first|exact zt|apply zan|intro hc
   all_goals exact hL _ (k + 1) zet ⟨by omega,e6.symm⟩ (by omega) zoe
  ·have e7:(x != 0) = true:=by simpa using hx
   rw [if_pos hx] at e6
   rw [e6]
   (have zx:=za e1 (za hw (za hget e7)));exact zg
def qK (l:List Qa) (f:Qa) (gap best:Int) (i:Nat):Int :=
 match l[i]? with
 | none=>best
 | some g=>if g.mach = 0∨g.host≠f.host∨ajb f g > gap then best else if best < 0 then (i:Int) else
   match l[best.toNat]? with
   | none=>best
   | some h=>if Jt [WN (ajb f g) (ajb f h),WN g.day h.day,WN g.mach h.mach] < 0 then (i:Int) else best
def yb (l:List Qa) (f:Qa) (gap:Int) (k:Nat):Int:=(List.range k).foldl (qK l f gap) (-1)
def VE (l:List Qa) (f:Qa) (gap:Int):Int:=yb l f gap l.length
theorem abr (l:List Qa) (f:Qa) (gap:Int) (k:Nat):yb l f gap (k + 1) = qK l f gap (yb l f gap k) k:=by
 rw [yb,ZM,Zq];rfl
theorem aof {l:List Qa} {f:Qa} {gap best:Int} {k:Nat} (h:best = -1∨(0≤best∧best < k)):qK l f gap best k = -1∨(0≤qK l f gap best k∧qK l f gap best k < (k + 1:Nat)):=by
 unfold qK
 split
 ·omega
 ·split
  ·omega
  ·split
   ·omega
   ·split
    ·omega
    ·split<;>omega
theorem aav (l:List Qa) (f:Qa) (gap:Int):∀ k,yb l f gap k = -1∨(0≤yb l f gap k∧yb l f gap k < (k:Int))
 | 0=>.inl rfl
 | k + 1=>by rw [abr];exact aof (aav l f gap k)
def ye:List (List Nat):=[[],[0],[1],[2],[2],[3,4,2,2],[2],[2],[2],[7,8,2],[9,2],[6,10,5,2],[5,11,11,2],[2],[13,2],[2],[2],[15,16,2],[17,2],[18,2],[14,19,12,2],[2],[21,2],[2],[2],[23,24,2],[25,2],[26,2],[22,27,20,2],[12,20,28,2],[29,28,2],[30,2],[2,31]]
def jX:OT:=och 0 33
@[go_sem] def V5 (Qm Qf QK:Nat):OP:=oN 0 (mv 34 7) (oN 1 (bc 35 .lss 34 (V.int 0)) (oN 2 (mv 36 35) (oN 3 (xg 37 (.load true 11 (.t 4)) 36 false) (oN 4 (xg 38 (.load true 11 (.t 9)) 36 false) (oN 5 (xg 39 (.call Qm [(.t 37),(.t 38)]) 36 false) (oN 6 (xg 40 (.load true 11 (.t 4)) 36 false) (oN 7 (mg 41 0 36 false) (oN 8 (mg 42 7 36 false) (oN 9 (xg 43 (.iaddr 11 (.t 41) (.t 42)) 36 false) (oN 10 (xg 44 (.load true 11 (.t 43)) 36 false) (oN 11 (xg 45 (.call Qm [(.t 40),(.t 44)]) 36 false) (.one 12 false [11,5] (xg 46 (.call Qf [(.t 39),(.t 45)]) 36 false) (oN 13 (xg 47 (.faddr 3 (.t 9)) 36 false) (oN 14 (xg 48 (.load false 1 (.t 47)) 36 false) (oN 15 (mg 49 0 36 false) (oN 16 (mg 50 7 36 false) (oN 17 (xg 51 (.iaddr 11 (.t 49) (.t 50)) 36 false) (oN 18 (xg 52 (.faddr 3 (.t 51)) 36 false) (oN 19 (xg 53 (.load false 1 (.t 52)) 36 false) (oN 20 (xg 54 (.call Qf [(.t 48),(.t 53)]) 36 false) (oN 21 (xg 55 (.faddr 2 (.t 9)) 36 false) (oN 22 (xg 56 (.load false 1 (.t 55)) 36 false) (oN 23 (mg 57 0 36 false) (oN 24 (mg 58 7 36 false) (oN 25 (xg 59 (.iaddr 11 (.t 57) (.t 58)) 36 false) (oN 26 (xg 60 (.faddr 2 (.t 59)) 36 false) (oN 27 (xg 61 (.load false 1 (.t 60)) 36 false) (oN 28 (xg 62 (.call Qf [(.t 56),(.t 61)]) 36 false) (.one 29 false [28,20,12,11,5] (xg 63 (.bslice 3 1 false [vi0] [(0,(.t 46)),(1,(.t 54)),(2,(.t 62))]) 36 false) (.one 30 false [29,28,20,12,11,5] (xg 64 (.call QK [(.t 63)]) 36 false) (oN 31 (xg 65 (.bin .lss (.t 64) (.c (V.int 0))) 36 false) (oN 32 (xo 66 (.pick (.t 36) (.c (V.bool true)) (.t 65))) .done))))))))))))))))))))))))))))))))
def j8 (Qm Qf QK:Nat):List AO:=aoO (V5 Qm Qf QK)
instance (Qm Qf QK:Nat):RG [] jX (V5 Qm Qf QK) (j8 Qm Qf QK) ye 33 (fun _=>true):=⟨rfl,by kernel_rfl,by kernel_rfl⟩
def wG (Qm Qf QK:Nat):AC:=Qb [0,2,4] (.reg [xo 4 (.box true 11 (.t 1)),mc 6 (V.int 0)]) (Qb [0,2,4,7] (.reg [mc 7 (V.int (-1))]) (Qb [7] (Qb [0,2,4,7,10,11,12] (.reg [mv 10 0,ln 11 10,mc 12 (V.int 0)]) (.block 0 (JG [0,2,4,7,10,11,12] (Qb [0,2,4,7,10,11,12,13] (.reg [bn 13 .lss 12 11]) (Qb [0,2,4,7,10,11,12] (.cond (.t 13) .skip (.exit 0)) (Qb [0,2,4,7,10,11,12] (.block 1 (Qb [0,2,4,7,8,9,10,11,12] (.reg [mv 14 12,ia 15 11 10 12,xo 16 (.load true 11 (.t 15)),xo 9 (.alloc [.val vi0,.val vs0,.val vi0,.val vi0,.val vi0,.val vi0,.val vs0,.val vi0,.val vi0,.val vi0,.val vs0]),mv 8 14,xs 11 9 16]) (Qb [0,2,4,7,8,9,10,11,12] (Qb [0,2,4,7,8,9,10,11,12,33] (.reg [fa 17 2 9,ld 18 1 17,bc 19 .eql 18 (V.int 0),mv 20 19,xg 21 (.faddr 1 (.t 9)) 20 false,xg 22 (.load false 1 (.t 21)) 20 false,xg 23 (.faddr 1 (.t 4)) 20 false,xg 24 (.load false 1 (.t 23)) 20 false,xg 25 (.bin .neq (.t 22) (.t 24)) 20 false,xo 26 (.pick (.t 20) (.c (V.bool true)) (.t 25)),mv 27 26,xg 28 (.load true 11 (.t 4)) 27 false,xg 29 (.load true 11 (.t 9)) 27 false,xg 30 (.call Qm [(.t 28),(.t 29)]) 27 false,mg 31 2 27 false,xg 32 (.bin .gtr (.t 30) (.t 31)) 27 false,xo 33 (.pick (.t 27) (.c (V.bool true)) (.t 32))]) (.cond (.t 33) (.exit 1) .skip)) (Qb [0,2,4,7,8,10,11,12,66] (VD [] jX (V5 Qm Qf QK) (j8 Qm Qf QK) ye) (.cond (.t 66) (.reg [mv 67 8,mv 7 67]) .skip))))) (.reg [bc 68 .add 12 (V.int 1),mv 12 68]))))))) (Qb [6] (.reg [mv 69 7,mv 6 69]) .ret))) def cP:List Q0:=[.tmp 6]
def UH (Γ:Env) (f:Nat):Prop:=∀ (l:List Qa) (f0:Qa) (gap:Int) (hl:l.length < 2 ^ 40) (hd:∀ x∈l,arG x) (hf:arG f0),EvN Γ f [.sl 11 (l.map Qa.v),f0.v,V.int gap] (V.int (VE l f0 gap))
attribute [local go_sem] Qa.cells Qa.v Y1 in
theorem afe {Γ:Env} {f Qm Qf QK:Nat} (h:Has Γ.P f 70 (wG Qm Qf QK) cP) (z0:Wy Γ Qm) (z1:Ws Γ Qf) (z2:yB Γ QK):UH Γ f:=by
 intro l f0 gap hl hd hf
 refine Qc h zsi zcl zcl fun C hC hm=>?_
 subst hC
 unfold wG
 simp only [Qa.v,Qa.cells]
 refine zgo ?_;repeat' first|exact zt|apply zan|intro hc
 refine QC (ι:=Nat) (fun k=>k≤l.length) (fun k=>Y1 [(0,.sl 11 (l.map Qa.v)),(2,V.int gap),(4,.ptr 0 0),(7,V.int (yb l f0 gap k)),(10,.sl 11 (l.map Qa.v)),(11,V.int l.length),(12,V.int k)] [(0,.box true f0.cells)] 1) (fun k=>l.length - k) 0 (zG _) (Qi []) (Qv [] (by simp only [go_sem,zwl,zd]<;>exact zcc) (by simp only [go_sem,zwl,Qa.cells]<;>exact zcc) (by simp) (by simp) (by omega)) fun k hk K' hL=>?_
 have hrng:=aav l f0 gap k
 have hsuc:=abr l f0 gap k
 have hN:VE l f0 gap = yb l f0 gap l.length:=rfl
 rcases hdr:l.drop k with _|⟨g,r⟩
 ·have hkl:=QY hdr
  have e1:decide ((k:Int) < (l.length:Int)) = false:=by simp;omega
  obtain rfl:k = l.length:=by omega
  rw [hN]
  (have zx:=e1);exact zg
 ·obtain ⟨hk',hget,hr⟩:=QJ hdr
  have hw:=Qq (k:=k) (by omega)
  have e1:decide ((k:Int) < (l.length:Int)) = true:=by simp;omega
  have hg:=hd g (zm hget)
  have p1:=(z0 f0 g hf hg).b
  rw [qK,hget] at hsuc
  simp only at hsuc
  clear hN
  generalize yb l f0 gap k = best at *
  generalize ajb f0 g = dg at *
  simp only [Qa.v,Qa.cells] at p1 hL ⊢
  by_cases c1:g.mach = 0
  ·rw [if_pos (.inl c1)] at hsuc
   have e2:(g.mach == 0) = true:=by simpa using c1
   (have zx:=za e1 (za e2 (za hw hget)));refine zgo ?_;repeat' first|exact zt|apply zan|intro hc
   all_goals exact hL _ (k + 1) (Qi []) (by omega) (by omega) (by rw [hsuc];exact Qv [] zwa (by simp only [go_sem,zwl,Qa.cells]<;>exact zcc) (by simp) (by simp) (by omega))
  have e2:(g.mach == 0) = false:=by simpa using c1
  by_cases c2:g.host = f0.host
  ·by_cases c3:dg > gap
   ·rw [if_pos (.inr (.inr c3))] at hsuc
    have e3:(g.host == f0.host) = true:=by simpa using c2
    have e4:decide (dg > gap) = true:=zn c3
    (have zx:=za e1 (za e2 (za e3 (za e4 (za hw hget)))));refine zgo ?_;repeat' first|exact zt|apply zan|intro hc
    all_goals exact hL _ (k + 1) (Qi []) (by omega) (by omega) (by rw [hsuc];exact Qv [] zwa (by simp only [go_sem,zwl,Qa.cells]<;>exact zcc) (by simp) (by simp) (by omega))
   have e3:(g.host == f0.host) = true:=by simpa using c2
   have e4:decide (dg > gap) = false:=zv c3
   rw [if_neg (by simp only [not_or,Decidable.not_not];exact ⟨c1,c2,c3⟩)] at hsuc
   by_cases c4:best < 0
   ·rw [if_pos c4] at hsuc
    have e5:decide (best < 0) = true:=zn c4
    (have zx:=za e1 (za e2 (za e3 (za e4 (za e5 (za hw hget))))));refine zgo ?_;repeat' first|exact zt|apply zan|intro hc
    all_goals exact hL _ (k + 1) (Qi []) (by omega) (by omega) (by rw [hsuc];exact Qv [] zwa (by simp only [go_sem,zwl,Qa.cells]<;>exact zcc) (by simp) (by simp) (by omega))
   ·rw [if_neg c4] at hsuc
    have e5:decide (best < 0) = false:=zv c4
    obtain ⟨j,rfl⟩:∃ j:Nat,best = j:=⟨best.toNat,by omega⟩
    have hj:j < l.length:=by omega
    obtain ⟨q,hgq⟩:∃ q,l[j]? = some q:=⟨_,zb hj⟩
    rw [Int.toNat_natCast,hgq] at hsuc
    simp only at hsuc
    have p2:=(z0 f0 q hf (hd q (zm hgq))).b
    generalize ajb f0 q = dq at *
    have p3:=(z1 dg dq).b
    have p4:=(z1 g.day q.day).b
    have p5:=(z1 g.mach q.mach).b
    have p6:=(z2 [WN dg dq,WN g.day q.day,WN g.mach q.mach] (by simp)).b
    generalize Jt [WN dg dq,WN g.day q.day,WN g.mach q.mach] = ff at *
    simp only [Qa.v,Qa.cells,zI,zO] at p2 p6
    by_cases c5:ff < 0
    ·rw [if_pos c5] at hsuc
     have e6:decide (ff < 0) = true:=zn c5
     (have zx:=za e1 (za e2 (za e3 (za e4 (za e5 (za e6 (za hw (za hget hgq))))))));refine zgo ?_;repeat' first|exact zt|apply zan|intro hc
     all_goals exact hL _ (k + 1) (Qi []) (by omega) (by omega) (by rw [hsuc];exact Qv [] zwa (by simp only [go_sem,zwl,Qa.cells]<;>exact zcc) (by simp) (by simp) (by omega))
    ·rw [if_neg c5] at hsuc
     have e6:decide (ff < 0) = false:=zv c5
     (have zx:=za e1 (za e2 (za e3 (za e4 (za e5 (za e6 (za hw (za hget hgq))))))));refine zgo ?_;repeat' first|exact zt|apply zan|intro hc
     all_goals exact hL _ (k + 1) (Qi []) (by omega) (by omega) (by rw [hsuc];exact Qv [] zwa (by simp only [go_sem,zwl,Qa.cells]<;>exact zcc) (by simp) (by simp) (by omega))
  ·rw [if_pos (.inr (.inl c2))] at hsuc
   have e3:(g.host == f0.host) = false:=by simpa using c2
   (have zx:=za e1 (za e2 (za e3 (za hw hget))));refine zgo ?_;repeat' first|exact zt|apply zan|intro hc
   all_goals exact hL _ (k + 1) (Qi []) (by omega) (by omega) (by rw [hsuc];exact Qv [] zwa (by simp only [go_sem,zwl,Qa.cells]<;>exact zcc) (by simp) (by simp) (by omega))
def Qa.Sz (f:Qa):Prop:=f.host.length < 2 ^ 60∧f.subj.length < 2 ^ 60∧f.text.length < 2 ^ 60
def ltF (a b:Qa):Bool:=decide (aiP a b < 0)
def aoc (l:List Qa):Bool:=okP Yg ltF l l.length
def WJ (l:List Qa):Bool:=aoc l && decide ((l.length:Int)≤400)
theorem axW (b:Bool):((bif b then (0:Int) else 24) != 0) = !b:=by cases b<;>rfl
def wU:List (List Nat):=[[],[0],[1],[2,1],[3],[4,3],[5,3,3],[6],[6],[8,6],[7,9,6],[10,6],[6],[11,12,6,6],[13,6],[6,14,3],[3,15]]
def xU:OT:=och 0 17
@[go_sem] def Kh (QS Jk:Nat):OP:=oN 0 (xo 12 (.load true 11 (.t 4))) (oN 1 (cl 13 QS [12]) (oN 2 (bc 14 .neq 13 (V.int 0)) (oN 3 (mv 15 14) (oN 4 (mg 16 3 15 false) (oN 5 (xg 17 (.bin .gtr (.t 16) (.c (V.int 0))) 15 false) (oN 6 (mg 18 17 15 false) (oN 7 (mg 19 0 18 true) (oN 8 (mg 20 3 18 true) (oN 9 (xg 21 (.bin .sub (.t 20) (.c (V.int 1))) 18 true) (.one 10 false [1] (xg 22 (.iaddr 11 (.t 19) (.t 21)) 18 true) (.one 11 false [1] (xg 23 (.load true 11 (.t 22)) 18 true) (.one 12 false [1] (xg 24 (.load true 11 (.t 4)) 18 true) (.one 13 false [1] (xg 25 (.call Jk [(.t 23),(.t 24)]) 18 true) (oN 14 (xg 26 (.bin .geq (.t 25) (.c (V.int 0))) 18 true) (oN 15 (xg 27 (.pick (.t 18) (.t 26) (.c (V.bool false))) 15 false) (oN 16 (xo 28 (.pick (.t 15) (.c (V.bool true)) (.t 27))) .done))))))))))))))))
def wj (QS Jk:Nat):List AO:=aoO (Kh QS Jk)
instance (QS Jk:Nat):RG [] xU (Kh QS Jk) (wj QS Jk) wU 17 (fun _=>true):=⟨rfl,by kernel_rfl,by kernel_rfl⟩
def aci (QS Jk:Nat):AC:=Qb [0] (.reg [mc 2 (V.bool false)]) (Qb [0] (Qb [0,5,6,7] (.reg [mv 5 0,ln 6 5,mc 7 (V.int 0)]) (.block 0 (JG [0,5,6,7] (Qb [0,5,6,7,8] (.reg [bn 8 .lss 7 6]) (Qb [0,5,6,7] (.cond (.t 8) .skip (.exit 0)) (Qb [0,5,6,7] (.block 1 (Qb [0,3,4,5,6,7] (.reg [mv 9 7,ia 10 11 5 7,xo 11 (.load true 11 (.t 10)),xo 4 (.alloc [.val vi0,.val vs0,.val vi0,.val vi0,.val vi0,.val vi0,.val vs0,.val vi0,.val vi0,.val vi0,.val vs0]),mv 3 9,xs 11 4 11]) (Qb [0,5,6,7,28] (VD [] xU (Kh QS Jk) (wj QS Jk) wU) (.cond (.t 28) (Qb [2] (.reg [mc 2 (V.bool false)]) .ret) .skip)))) (.reg [bc 29 .add 7 (V.int 1),mv 7 29]))))))) (Qb [2] (.reg [mv 30 0,ln 31 30,bc 32 .leq 31 (V.int 400),mv 2 32]) .ret)) def cQ:List Q0:=[.tmp 2]
def VZ (Γ:Env) (f:Nat):Prop:=∀ (l:List Qa) (hl:l.length < 2 ^ 40) (hz:∀ x∈l,x.Sz),EvN Γ f [.sl 11 (l.map Qa.v)] (V.bool (WJ l))
attribute [local go_sem] zd Qa.cells Qa.v Y1 in
theorem ahr {Γ:Env} {f QS Jk:Nat} (h:Has Γ.P f 33 (aci QS Jk) cQ) (z0:Ur Γ QS) (z1:jP Γ Jk):VZ Γ f:=by
 intro l hl hz
 refine Qc h zsi zcl zcl fun C hC hm=>?_
 subst hC
 unfold aci
 refine zgo ?_;repeat' first|exact zt|apply zan|intro hc
 refine QC (ι:=Nat) (fun k=>k≤l.length∧okP Yg ltF l k = true) (fun k=>Y1 [(0,.sl 11 (l.map Qa.v)),(5,.sl 11 (l.map Qa.v)),(6,V.int l.length),(7,V.int k)] [] 0) (fun k=>l.length - k) 0 ⟨zG _,rfl⟩ (Qi []) (Qv [] (by simp only [go_sem,zwl,zd]<;>exact zcc) zwa (by simp) (by simp) (by omega)) fun k hk K' hL=>?_
 obtain ⟨hk,hinv⟩:=hk
 rcases hd:l.drop k with _|⟨x,r⟩
 ·have hkl:=QY hd
  have e1:decide ((k:Int) < (l.length:Int)) = false:=by simp;omega
  have hkk:k = l.length:=by omega
  subst hkk
  have hn:WJ l = decide ((l.length:Int)≤400):=by rw [WJ,aoc,hinv,kh]
  rw [hn]
  (have zx:=e1);exact zg
 ·obtain ⟨hk',hget,hr⟩:=QJ hd
  have hw:=Qq (k:=k) (by omega)
  have e1:decide ((k:Int) < (l.length:Int)) = true:=by simp;omega
  have hxz:=hz x (zm hget)
  have hnx:=(z0 x hxz.1 hxz.2.1 hxz.2.2).b
  have hbad:okP Yg ltF l (k + 1) = false→WJ l = false:=fun h=>by rw [WJ,aoc,atW h (by omega),ke]
  have hce:=axW (Yg x)
  simp only [Qa.v,Qa.cells] at hnx
  rcases hx:Yg x with _|_
  ·have hb:okP Yg ltF l (k + 1) = false:=by rw [ajm,hget];simp [hx]
   rw [hbad hb]
   rw [hx] at hce hnx
   (have zx:=za e1 (za hw (za hce hget)));exact zg
  ·rw [hx] at hce hnx
   rcases k with _|k
   ·have hw0:IntKind.i64.wrap 1 = ((1:Nat):Int):=by decide
    have hg1:okP Yg ltF l (0 + 1) = true:=by rw [atU hget,hx]
    have e2:decide (((0:Nat):Int) > 0) = false:=rfl
    (have zx:=za e1 (za e2 (za hw (za hw0 (za hce hget)))));refine zgo ?_;repeat' first|exact zt|apply zan|intro hc
    all_goals exact hL _ 1 (Qi []) ⟨by omega,hg1⟩ (by omega) (zwg [])
   ·have e2:decide (((k + 1:Nat):Int) > 0) = true:=zn (by omega)
    have hw2:IntKind.i64.wrap (((k + 1:Nat):Int) - 1) = (k:Int):=by rw [Q7 (by omega) (by omega)];omega
    obtain ⟨y,hgy⟩:∃ y,l[k]? = some y:=⟨_,zb (by omega)⟩
    have hnext:=aq6 (p:=Yg) (q:=ltF) hget hgy
    rw [hinv,hx] at hnext
    have ho:=(z1 y x).b
    simp only [Qa.v,Qa.cells] at ho
    rcases hb:ltF y x with _|_
    ·have e3:decide (aiP y x≥0) = true:=by
      rw [ltF,zH] at hb
      exact zn (by omega)
     rw [hbad (by rw [hnext,hb];rfl)]
     generalize aiP y x = oo at *
     (have zx:=za e1 (za e2 (za e3 (za hw (za hw2 (za hce (za hget hgy)))))));exact zg
    ·have e3:decide (aiP y x≥0) = false:=by
      rw [ltF,decide_eq_true_iff] at hb
      exact zv (by omega)
     have hg2:okP Yg ltF l (k + 2) = true:=by rw [hnext,hb];rfl
     generalize aiP y x = oo at *
     (have zx:=za e1 (za e2 (za e3 (za hw (za hw2 (za hce (za hget hgy)))))));refine zgo ?_;repeat' first|exact zt|apply zan|intro hc
     all_goals exact hL _ (k + 2) (Qi []) ⟨by omega,hg2⟩ (by omega) (zwg [])
def YS (l:List Qa) (gap:Int):Int:=if WJ l = true then (if gap < 0∨gap > 4000 then 2 else 0) else 24
theorem axz {α:Type} {p:α→Bool} {q:α→α→Bool} {l:List α} {k i:Nat} {x:α} (h:okP p q l k = true) (hi:i < k) (hx:l[i]? = some x):p x = true:=by
 rw [okP,kH] at h
 have:=h i (k9.2 hi)
 rw [hx] at this
 simp only [zo] at this
 exact this.1
theorem W6 {l:List Qa} (h:WJ l = true):l.length≤400∧∀ x∈l,Yg x = true:=by
 rw [WJ,zo,decide_eq_true_iff] at h
 refine ⟨by omega,fun x hx=>?_⟩
 obtain ⟨i,hi,rfl⟩:=ky hx
 exact axz h.1 hi (zb hi)
theorem akI {x:Qa} (h:Yg x = true):arG x:=by
 simp only [Yg,zo,decide_eq_true_iff] at h
 exact ⟨by omega,by omega⟩
theorem awd {l:List Qa} {gap:Int} (h:YS l gap = 0):l.length≤400∧∀ x∈l,arG x:=by
 unfold YS at h
 split at h
 ·rename_i hn
  exact ⟨(W6 hn).1,fun x hx=>akI ((W6 hn).2 x hx)⟩
 ·cases h
def ach (Yk:Nat):AC:=Qb [0,1] (.reg [mc 4 (V.int 0)]) (Qb [] (.block 0 (Qb [1,5] (.reg [mv 6 0,cl 7 Yk [6],xo 8 (.un .not (.t 7)),mv 5 8]) (.cond (.t 5) (Qb [4] (.reg [mc 4 (V.int 24)]) .ret) (Qb [9] (.reg [mv 10 1,bc 11 .lss 10 (V.int 0),mv 12 11,mg 13 1 12 false,xg 14 (.bin .gtr (.t 13) (.c (V.int 4000))) 12 false,xo 15 (.pick (.t 12) (.c (V.bool true)) (.t 14)),mv 9 15]) (.cond (.t 9) (Qb [4] (.reg [mc 4 (V.int 2)]) .ret) .skip))))) (Qb [4] (.reg [mc 4 (V.int 0)]) .ret)) def cR:List Q0:=[.tmp 4]
def qF (Γ:Env) (f:Nat):Prop:=∀ (l:List Qa) (gap:Int) (hl:l.length < 2 ^ 40) (hz:∀ x∈l,x.Sz),EvN Γ f [.sl 11 (l.map Qa.v),V.int gap] (V.int (YS l gap))
theorem ahq {Γ:Env} {f Yk:Nat} (h:Has Γ.P f 16 (ach Yk) cR) (z0:VZ Γ Yk):qF Γ f:=by
 intro l gap hl hz
 refine Qc h zsi zcl zcl fun C hC hm=>?_
 subst hC
 unfold ach
 have hn:=(z0 l hl hz).b
 unfold YS
 rcases hb:WJ l with _|_
 ·rw [hb] at hn
  rw [if_neg (by decide)]
  exact zg
 ·rw [hb] at hn
  rw [if_pos rfl]
  by_cases g1:gap < 0
  ·have e1:decide (gap < 0) = true:=zn g1
   rw [if_pos (.inl g1)]
   (have zx:=e1);exact zg
  ·have e1:decide (gap < 0) = false:=zv g1
   by_cases g2:gap > 4000
   ·have e2:decide (gap > 4000) = true:=zn g2
    rw [if_pos (.inr g2)]
    (have zx:=za e1 e2);exact zg
   ·have e2:decide (gap > 4000) = false:=zv g2
    rw [if_neg (by omega)]
    (have zx:=za e1 e2);exact zg
end Av
end
