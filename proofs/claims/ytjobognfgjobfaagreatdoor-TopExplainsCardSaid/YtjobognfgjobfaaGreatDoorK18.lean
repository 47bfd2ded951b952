/- K18 -/
import Derived.Test.YtjobognfgjobfaaGreatDoorK17
import Derived.Test.YtjobognfgjobfaaGreatDoorK12
import Derived.Test.YtjobognfgjobfaaGreatDoorK13
set_option linter.unusedVariables false
set_option linter.unusedSimpArgs false
noncomputable section
set_option maxRecDepth 10000
set_option maxHeartbeats 4000000
namespace Av
open Go
attribute [local irreducible] AWp WC wb aai awS awC aeM awQ afz Jk qV aes awR jj awB okR aaf ris
theorem aeR (c:UInt8):∀ (r cur:List UInt8),(XG c cur r).length≤r.length + 1
 | [],cur=>by simp [XG]
 | x :: r,cur=>by
   rw [XG];split
   ·have:=aeR c r [];simp;omega
   ·have:=aeR c r (cur++[x]);simp;omega
theorem abR (c:UInt8) (s:List UInt8):(QK c s).length≤s.length + 1:=aeR c s []
def atT (L:List (List UInt8)) (x:QC):Bool:=L.all fun n=>acu n x
def ji (L:List (List UInt8)) (xs:List QC):List Int:=(xs.filter (atT L)).map QC.code
theorem amo (L:List (List UInt8)) (k:Nat) (x:QC) (h:Jd[k]? = some x):ji L (Jd.take (k + 1)) = ji L (Jd.take k)++(if atT L x = true then [x.code] else []):=by
 rw [ji,ji,zB,h,kU,kj]
 congr 1
 by_cases hx:atT L x = true<;>simp [hx]
def ag9 (s:List UInt8):List Int×Bool:=if (QK 43 s).all aaW then (ji (QK 43 s) Jd,true) else ([],false)
def Qm (l some:List Int):List Int:=l.filter fun x=>!some.contains x
theorem ado {l m:List Int} {k:Nat} {x:Int} (h:l[k]? = some x):Qm (l.take (k + 1)) m = Qm (l.take k) m++(if m.contains x = true then [] else [x]):=by
 rw [Qm,Qm,zB,h,kU]
 congr 1
 by_cases hx:m.contains x = true<;>simp at hx<;>simp [hx]
theorem Vr (l m:List Int):(Qm l m).length≤l.length:=kJ _ _
def avX (out:List Int) (x:Int):Nat→Nat
 | 0=>0
 | k + 1=>if ag8 (out.getD k 0) < ag8 x then avX out x k else k + 1
theorem ar0 (out:List Int) (x:Int):∀ k,avX out x k≤k
 | 0=>zj _
 | k + 1=>by
   rw [avX];split
   ·exact Zb (ar0 out x k)
   ·exact zj _
def aqE (out:List Int) (x:Int):List Int:=out.take (avX out x out.length)++[x]++out.drop (avX out x out.length)
theorem atO (out:List Int) (x:Int):(aqE out x).length = out.length + 1:=by
 have:=ar0 out x out.length
 simp [aqE];omega
def aj6 (l:List Int):List Int:=l.foldl aqE []
theorem al2:∀ (l out:List Int),(l.foldl aqE out).length = out.length + l.length
 | [],out=>by simp
 | x :: r,out=>by rw [List.foldl_cons,al2 r,atO];simp;omega
theorem ald (l:List Int):(aj6 l).length = l.length:=by rw [aj6,al2];simp
def au6 (c:Int):Bool:=decide (c < 1) || decide (c > 16)
def Us:List UInt8→UInt8×List UInt8
 | []=>(0,[])
 | c :: r=>if c = 45∨c = 33∨c = 43 then (c,r) else (0,c :: r)
abbrev asX:=List Int×List Int
def doG (g:UInt8) (set:List Int) (p:asX):asX :=
 if g = 45 then (Qm p.1 set,p.2)
 else if g = 33 then (Qm p.1 set,p.2++set)
 else if g = 43 then (Qm p.1 set++Qm p.1 (Qm p.1 set),p.2)
 else (p.1++Qm (Qm set p.1) p.2,p.2)
def auG:List UInt8:=[64,115,116,114,101,110,103,116,104]
def wordOk (w:List UInt8):Bool:=w == auG || (ag9 (Us w).2).2
def doR (w:List UInt8) (p:asX):asX:=if w == auG then (aj6 p.1,p.2) else doG (Us w).1 (ag9 (Us w).2).1 p
def goP:List (List UInt8)→Nat→asX→List Int×Int×Int
 | [],_,p=>(p.1,0,0)
 | w :: r,i,p=>if wordOk w = true then goP r (i + 1) (doR w p) else ([],((i + 1:Nat):Int),17)
def vL (s:List UInt8):List Int×Int×Int :=
 if s.length > 8192 then ([],0,3) else if s = [] then ([],0,0) else if (QK 58 s).length > 200 then ([],0,3) else goP (QK 58 s) 0 ([],[])
theorem ac7 (L:List (List UInt8)):(ji L Jd).Sublist (Jd.map QC.code):=(Zr (l:=Jd)).map _
theorem aui:(Jd.map QC.code).Nodup:=by decide
theorem auh:∀ x∈Jd.map QC.code,1≤x∧x≤16:=by decide
theorem aq0 (s:List UInt8):(ag9 s).1.Nodup:=by
 unfold ag9;split
 ·exact aui.sublist (ac7 _)
 ·exact kw
theorem avp (s:List UInt8):∀ x∈(ag9 s).1,1≤x∧x≤16:=by
 unfold ag9;split
 ·exact fun x hx=>auh x ((ac7 _).subset hx)
 ·intro x hx;cases hx
theorem aod (s:List UInt8):(ag9 s).1.length≤16:=by
 unfold ag9;split
 ·have:=(ac7 (QK 43 s)).length_le
  have e:(Jd.map QC.code).length = 16:=by decide
  show (ji (QK 43 s) Jd).length≤16
  omega
 ·simp
theorem YR {x:Int} {l m:List Int}:x∈Qm l m↔x∈l∧x ∉ m:=by simp [Qm]
theorem ajR (p:asX) (m:List Int):(Qm p.1 m++Qm p.1 (Qm p.1 m)).Perm p.1:=by
 have hp:Qm p.1 (Qm p.1 m) = p.1.filter fun x=>m.contains x:=by
  unfold Qm
  refine List.filter_congr fun x hx=>?_
  cases hm:m.contains x<;>simp_all
 rw [hp,Qm]
 have:∀ l:List Int,((l.filter fun x=>!m.contains x)++(l.filter fun x=>m.contains x)).Perm l:=by
  intro l;induction l with
  | nil=>exact .refl _
  | cons x r ih =>
    cases hx:m.contains x
    ·simp only [List.filter_cons,hx,Z7,if_true,zu,if_false,List.cons_append];exact ih.cons x
    ·simp only [List.filter_cons,hx,Bool.not_true,if_true,zu,if_false];exact ZV.trans (ih.cons x)
 exact this _
theorem awi (w:List UInt8) (p:asX):(doR w p).1.length≤p.1.length + 16∧(doR w p).2.length≤p.2.length + 16:=by
 have h:=aod (Us w).2
 unfold doR;split
 ·simp [ald]
 ·unfold doG
  have a:=Vr p.1 (ag9 (Us w).2).1
  have b:=Vr (Qm (ag9 (Us w).2).1 p.1) p.2
  have c:=Vr (ag9 (Us w).2).1 p.1
  have part:(Qm p.1 (ag9 (Us w).2).1++Qm p.1 (Qm p.1 (ag9 (Us w).2).1)).length≤p.1.length:=Nat.le_of_eq (ajR _ _).length_eq
  split
  ·simp;omega
  ·split
   ·simp;omega
   ·split
    ·simp only;omega
    ·simp;omega
theorem arY (out:List Int) (x:Int):(aqE out x).Perm (x :: out):=by
 unfold aqE
 rw [kq,List.singleton_append]
 exact ZV.trans (by rw [kh])
theorem ajI:∀ (l out:List Int),(l.foldl aqE out).Perm (out++l)
 | [],out=>by simp
 | x :: r,out=>by
   rw [List.foldl_cons]
   refine (ajI r _).trans ?_
   refine ((arY out x).append_right r).trans ?_
   rw [List.cons_append]
   exact ZV.symm
theorem apk (l:List Int):(aj6 l).Perm l:=by
 have:=ajI l []
 simpa [aj6] using this
structure anY (p:asX):Prop where
 nd:p.1.Nodup
 rg:∀ x∈p.1,1≤x∧x≤16
 dj:∀ x∈p.1,x ∉ p.2
theorem axF (w:List UInt8) (p:asX) (h:anY p):anY (doR w p):=by
 have nd:=aq0 (Us w).2
 have rg:=avp (Us w).2
 unfold doR;split
 ·have hp:=apk p.1
  exact ⟨hp.nodup_iff.2 h.nd,fun x hx=>h.rg x (hp.mem_iff.1 hx),fun x hx=>h.dj x (hp.mem_iff.1 hx)⟩
 ·generalize (ag9 (Us w).2).1 = m at *
  unfold doG
  split
  ·exact ⟨h.nd.sublist Zr,fun x hx=>h.rg x (YR.1 hx).1,fun x hx=>h.dj x (YR.1 hx).1⟩
  ·split
   ·refine ⟨h.nd.sublist Zr,fun x hx=>h.rg x (YR.1 hx).1,fun x hx hk=>?_⟩
    have hx:=YR.1 hx
    rcases zP.1 hk with hk|hk
    ·exact h.dj x hx.1 hk
    ·exact hx.2 hk
   ·split
    ·have hp:=ajR p m
     exact ⟨hp.nodup_iff.2 h.nd,fun x hx=>h.rg x (hp.mem_iff.1 hx),fun x hx=>h.dj x (hp.mem_iff.1 hx)⟩
    ·refine ⟨?_,fun x hx=>?_,fun x hx=>?_⟩
     ·refine Zd.2 ⟨h.nd,(nd.sublist Zr).sublist Zr,fun a ha b hb e=>?_⟩
      subst e
      exact (YR.1 (YR.1 hb).1).2 ha
     ·rcases zP.1 hx with hx|hx
      ·exact h.rg x hx
      ·exact rg x (YR.1 (YR.1 hx).1).1
     ·rcases zP.1 hx with hx|hx
      ·exact h.dj x hx
      ·exact (YR.1 hx).2
theorem avt:anY ([],[]):=⟨kw,fun x h=>by simp at h,fun x h=>by simp at h⟩
theorem axu {l:List Int} (hn:l.Nodup) (hr:∀ x∈l,1≤x∧x≤16):l.length≤16:=by
 have hs:l ⊆ Jd.map QC.code:=by
  intro x hx
  have h:=hr x hx
  have e:Jd.map QC.code = [1,2,3,4,5,6,7,8,9,10,11,12,13,14,15,16]:=by decide
  rw [e];simp;omega
 have:=hn.length_le_of_subset hs
 have e:(Jd.map QC.code).length = 16:=by decide
 omega
theorem anY.len {p:asX} (h:anY p):p.1.length≤16:=axu h.nd h.rg
theorem aeS (c:UInt8):∀ (s cur t:List UInt8),XG c cur (s++c :: t) = XG c cur s++XG c [] t
 | [],cur,t=>by simp [XG]
 | x :: r,cur,t=>by
   rw [List.cons_append,XG,XG]
   split
   ·rw [aeS c r [] t];rfl
   ·exact aeS c r _ t
theorem ajk (c:UInt8) (s t:List UInt8):QK c (s++[c]++t) = QK c s++QK c t:=by
 rw [kq,List.singleton_append];exact aeS c s [] t
theorem aht (c:UInt8):∀ (s cur:List UInt8),c ∉ s→XG c cur s = [cur++s]
 | [],cur,_=>by simp [XG]
 | x :: r,cur,h=>by
   simp only [zw,not_or] at h
   rw [XG,if_neg (fun e=>h.1 e.symm),aht c r _ h.2];simp
theorem aeO {α β:Type} (f:α→β) (l:List α):(l.map f).take l.length = l.map f:=by rw [zi (by simp)]
theorem abS (c:UInt8) (r:List UInt8):Us (c :: r) = if c = 45∨c = 33∨c = 43 then (c,r) else (0,c :: r):=rfl
theorem aqU {w:List UInt8} (h:w≠auG):(w == auG) = false:=by simpa using h
def acq (r:List Int×Int×Int):V:=.tup [.sl 1 (r.1.map V.int),V.int r.2.1,V.int r.2.2]
theorem ake (r:List Int×Int×Int):(acq r).closed:=by simp only [acq,V.closed,Qb,and_self]
theorem aeQ (c:UInt8):∀ (r cur w:List UInt8),w∈XG c cur r→w.length≤cur.length + r.length
 | [],cur,w,h=>by simp only [XG,zy] at h;subst h;simp
 | x :: r,cur,w,h=>by
   rw [XG] at h
   split at h
   ·rcases zw.1 h with rfl|h
    ·simp
    ·have:=aeQ c r [] w h;simp at this ⊢;omega
   ·have:=aeQ c r _ w h;simp at this ⊢;omega
theorem aeP {c:UInt8} {s w:List UInt8} (h:w∈QK c s):w.length≤s.length:=by simpa using aeQ c s [] w h
def XC (Γ:Env) (f:Nat):Prop:=∀ (s:List UInt8) (c:UInt8) (hs:s.length < 4294967281),EvC Γ f [V.str s,V.str [c]] (.sl 1 ((QK c s).map V.str))
def UV (Γ:Env) (f:Nat):Prop:=∀ (s:List UInt8) (c:UInt8) (hs:s.length < 4294967281),EvN Γ f [V.str s,V.str [c]] (V.int ((((QK c s).length - 1:Nat)):Int))
def Un (Γ:Env) (f:Nat):Prop:=∀ (s:List UInt8) (c:UInt8),EvN Γ f [V.str s,.sc (.int .u8 c.toNat)] (V.int (Lib.indexByte s c))
def KD:=qd Proofs.Tryz.f94 []
def UU (Γ:Env) (f:Nat):Prop:=∀ (s:List UInt8) (hs:s.length < 2 ^ 30),EvC Γ f [V.str s] (.tup [.sl 1 ((ag9 s).1.map V.int),V.bool (ag9 s).2])
attribute [local go_sem] QC.cells QC.v QS in
theorem agy {Γ:Env} {f:Nat} (h:Has Γ.P f 46 KD.1.1.ac KD.1.2) (z0:Wf Γ 177) (z1:XC Γ 52) (z2:qi Γ 178):UU Γ f:=by
 intro s hs
 refine Q0 h zsi (by simp only [V.closed,Qb,and_self]) fun C hC hm=>?_
 subst hC
 simp only [KD,qd,DC.ac]
 have hlen:=abR 43 s
 have hsp:=(z1 s 43 (by omega)).b
 have hset:ag9 s = if (QK 43 s).all aaW then (ji (QK 43 s) Jd,true) else ([],false):=rfl
 rw [hset]
 generalize QK 43 s = L at *
 refine zgo ?_;repeat' first|exact zt|apply zan|intro hc
 refine Qj (ι:=Nat) (fun k=>k≤16∧(0 < k→L.all aaW = true)) (fun k=>QS [(0,V.str s),(4,.hd 0 0 (ji L (Jd.take k)).length),(12,.sl 12 (Jd.map QC.v)),(13,V.int 16),(14,V.int k)] [(0,.buf true 1 ((ji L (Jd.take k)).map V.int))] 1) (fun k=>17 - k) 0 ⟨by omega,fun h=>absurd h (by omega)⟩ (Qd [(0,2000)]) (zwg [(0,2000)]) fun k hk K' hL=>?_
 obtain ⟨hk,hkn⟩:=hk
 rcases hd:Jd.drop k with _|⟨x,r⟩
 ·have hk16:=Qu hd
  rw [qY] at hk16
  have hk16:k = 16:=by omega
  subst hk16
  have e3:Jd.take 16 = Jd:=zi (by rw [qY];omega)
  have hall:=hkn (by omega)
  rw [e3,hall]
  refine zgo ?_;repeat' first|exact zt|apply zan|intro hc
  all_goals (refine Qg _ rfl ?_;simp only [go_sem];rw [zi (by simp)])
 ·obtain ⟨hk',hget,hr⟩:=Qq hd
  rw [qY] at hk'
  have hx:=zq hget
  have hw:=Qe (k:=k) (by omega)
  have e1:decide ((k:Int) < 16) = true:=by simp;omega
  have hcs:=amo L k x hget
  have hol:(ji L (Jd.take k)).length≤16:=by
   rw [ji,zb]
   refine Zk (kJ _ _) ?_
   rw [zU];omega
  generalize ji L (Jd.take k) = out at *
  (have zx:=za e1 hget);refine zgo ?_;repeat' first|exact zt|apply zan|intro hc
  refine Ji (ι:=Nat) (fun j=>j≤L.length∧(L.take j).all aaW = true) (fun j=>[(7,V.bool ((L.take j).all fun n=>acu n x)),(21,V.int j)]) (fun j=>L.length - j) 0 (by omega) ⟨by omega,by simp⟩ zol zlt (by simp only [Nat.reduceAdd,ovT,Xs,Nat.reduceEqDiff,reduceIte,KA,xA,aqC,u32,u33,u34,u35,u36,u37,u38,u39,and_self,and_true,true_and];exact ⟨rfl,rfl⟩) fun j hj K'' hL2=>?_
  obtain ⟨hj,hjk⟩:=hj
  simp only [ovT,Xs,Nat.reduceEqDiff,reduceIte]
  rcases hdj:L.drop j with _|⟨y,r2⟩
  ·have hjl:=Qu hdj
   have e2:decide ((j:Int) < (((L.map V.str).length:Nat):Int)) = false:=by simp;omega
   have e3:L.take j = L:=zi hjl
   rw [e3] at hjk ⊢
   rcases hin:atT L x with _|_
   ·have hin2:(L.all fun n=>acu n x) = false:=hin
    rw [hin2]
    rw [hin] at hcs
    (have zx:=za e2 hw);refine zgo ?_;repeat' first|exact zt|apply zan|intro hc
    simp only [zu,if_false,ka] at hcs
    refine hL _ (k + 1) (Qd []) ⟨by omega,fun _=>hjk⟩ (by omega) ?_
    rw [hcs]
    exact zwg []
   ·have hin2:(L.all fun n=>acu n x) = true:=hin
    rw [hin2]
    rw [hin] at hcs
    (have zx:=za e2 hw);refine zgo ?_;repeat' first|exact zt|apply zan|intro hc
    rw [if_pos rfl] at hcs
    have hb:List.take out.length (List.map V.int out)++[V.int x.code] = (out++[x.code]).map V.int:=by
     rw [zi (by simp),kj];rfl
    have hln:out.length + 1 = (out++[x.code]).length:=by simp
    rw [hb,hln]
    refine hL _ (k + 1) (Qd [(0,16001)]) ⟨by omega,fun _=>hjk⟩ (by omega) ?_
    rw [hcs]
    exact zwg [(0,16001)]
  ·obtain ⟨hj',hgj,hrj⟩:=Qq hdj
   have hwj:=Qe (k:=j) (by omega)
   have e2:decide ((j:Int) < (((L.map V.str).length:Nat):Int)) = true:=by simp;omega
   have hall:((L.take (j + 1)).all fun n=>acu n x) = (((L.take j).all fun n=>acu n x) && acu y x):=by
    rw [zB,hgj];simp
   have hnm:=(z2 x y).b
   have h1:=apK hx y
   have h2:=anh (n:=y) (s:=x)
   simp only [apv,← h1,h2,QC.v,QC.cells] at hnm
   rcases hy:aaW y with _|_
   ·rw [hy] at hnm
    have e3:L.all aaW = false:=by
     rw [Ze];exact ⟨y,zq hgj,by simp [hy]⟩
    rw [e3]
    (have zx:=za e2 (za hwj hgj));refine zgo ?_;repeat' first|exact zt|apply zan|intro hc
    all_goals (refine Qg _ rfl ?_;simp only [go_sem];first|done|rfl|exact ⟨_,_,rfl⟩|trace_state)
   ·rw [hy] at hnm
    have hjk2:(L.take (j + 1)).all aaW = true:=by rw [zB,hgj];simp [hy];simpa using hjk
    rcases hb:((L.take j).all fun n=>acu n x) with _|_
    ·rw [hb,zK] at hall
     (have zx:=za e2 (za hwj hgj));refine zgo ?_;repeat' first|exact zt|apply zan|intro hc
     all_goals exact hL2 _ (j + 1) (by rw [hall];simp only [Nat.reduceAdd,ovT,Xs,Nat.reduceEqDiff,reduceIte,KA,xA,aqC,u32,u33,u34,u35,u36,u37,u38,u39,and_self,and_true,true_and]) ⟨by omega,hjk2⟩ (by omega) zoe
    ·rw [hb,zO] at hall
     (have zx:=za e2 (za hwj hgj));refine zgo ?_;repeat' first|exact zt|apply zan|intro hc
     all_goals exact hL2 _ (j + 1) (by rw [hall];simp only [Nat.reduceAdd,ovT,Xs,Nat.reduceEqDiff,reduceIte,KA,xA,aqC,u32,u33,u34,u35,u36,u37,u38,u39,and_self,and_true,true_and]) ⟨by omega,hjk2⟩ (by omega) zoe
end Av
end
