/- B18 -/
import Derived.Test.YtphclkkggijicaaGreatDoorB17
import Derived.Test.YtphclkkggijicaaGreatDoorB12
set_option linter.unusedVariables false
set_option linter.unusedSimpArgs false
noncomputable section
set_option maxRecDepth 10000
set_option maxHeartbeats 4000000
namespace Av
open Go
attribute [local irreducible] AWp W7 Kx jy awS awC vE awQ aay QP W6 vu awR Vn awB okR jx ris
def VQ (r:List Int×Int×Int):V:=.tup [.sl 1 (r.1.map V.int),V.int r.2.1,V.int r.2.2]
theorem vR (r:List Int×Int×Int):(VQ r).closed:=by simp only [VQ,V.closed,Qa,and_self]
theorem aaN (c:UInt8):∀ (r cur w:List UInt8),w∈Ya c cur r→w.length≤cur.length + r.length
 | [],cur,w,h=>by simp only [Ya,zO] at h;subst h;simp
 | x :: r,cur,w,h=>by
   rw [Ya] at h
   split at h
   ·rcases zp.1 h with rfl|h
    ·simp
    ·have:=aaN c r [] w h;simp at this ⊢;omega
   ·have:=aaN c r _ w h;simp at this ⊢;omega
theorem aev {c:UInt8} {s w:List UInt8} (h:w∈QU c s):w.length≤s.length:=by simpa using aaN c s [] w h
def Kc:=qd Proofs.Tryz.f112 []
def Uw (Γ:Env) (f:Nat):Prop:=∀ (s:List UInt8) (hs:s.length < 2 ^ 30),EvC Γ f [V.str s] (VQ (XE s))
attribute [local go_sem] Yo in
theorem adZ {Γ:Env} {f:Nat} (h:Has Γ.P f 39 Kc.1.1.ac Kc.1.2) (z0:Uv Γ 155) (z1:UR Γ 156):Uw Γ f:=by
 intro s hs
 refine Qn h zsi (vR _) fun C hC hm=>?_
 subst hC
 simp only [Kc,qd,DC.ac]
 by_cases h1:s.length > 8192
 ·have e1:decide ((s.length:Int) > 8192) = true:=by simp;omega
  have e2:XE s = ([],0,3):=by rw [XE,if_pos h1]
  rw [e2,VQ]
  (have zx:=e1);refine zgo ?_;repeat' first|exact zt|apply zan|intro hc
  all_goals (refine Qf _ rfl ?_;simp only [go_sem];first|done|rfl|exact ⟨_,_,rfl⟩|trace_state)
 ·have e1:decide ((s.length:Int) > 8192) = false:=by simp;omega
  by_cases h2:s = []
  ·subst h2
   have e2:XE [] = ([],0,0):=rfl
   rw [e2,VQ]
   (have zx:=e1);refine zgo ?_;repeat' first|exact zt|apply zan|intro hc
   all_goals (refine Qf _ rfl ?_;simp only [go_sem];first|done|rfl|exact ⟨_,_,rfl⟩|trace_state)
  ·have e3:(s == []) = false:=by simpa using h2
   have hsp:=(z0 s 58 (by omega)).b
   have hlen:=wg 58 s
   have hmem:∀ w∈QU 58 s,w.length < 2 ^ 30:=fun w hw=>by have:=aev hw;omega
   have e58:(((58:UInt8).toNat:Nat):Int) = 58:=rfl
   rw [e58] at hsp
   by_cases h3:(QU 58 s).length > 200
   ·have e2:XE s = ([],0,3):=by rw [XE,if_neg h1,if_neg h2,if_pos h3]
    have e4:decide ((((QU 58 s).map V.str).length:Int) > 200) = true:=by simp;omega
    rw [e2,VQ]
    (have zx:=za e1 (za e3 e4));refine zgo ?_;repeat' first|exact zt|apply zan|intro hc
    all_goals (refine Qf _ rfl ?_;simp only [go_sem];first|done|rfl|exact ⟨_,_,rfl⟩|trace_state)
   ·have e2:XE s = goP (QU 58 s) 0 ([],[]):=by rw [XE,if_neg h1,if_neg h2,if_neg h3]
    have e4:decide ((((QU 58 s).map V.str).length:Int) > 200) = false:=by simp;omega
    rw [e2]
    generalize QU 58 s = ws at *
    (have zx:=za e1 (za e3 e4));refine zgo ?_;repeat' first|exact zt|apply zan|intro hc
    refine UE 15000 0 1 rfl rfl ?_
    refine UE 15000 1 1 rfl rfl ?_
    refine Qz (ι:=Nat×alj) (fun q=>q.1≤ws.length∧q.2.1.length≤16 * q.1∧q.2.2.length≤16 * q.1∧goP (ws.drop q.1) q.1 q.2 = goP ws 0 ([],[]))
     (fun q=>Yo [(5,.sl 1 (ws.map V.str)),(6,.ptr 0 0),(7,V.int q.1)] [(0,.box true [.hd 1 0 (q.2.1.map V.int).length,.hd 2 0 (q.2.2.map V.int).length]),(1,.buf true 1 (q.2.1.map V.int)),(2,.buf true 1 (q.2.2.map V.int))] 3)
     (fun q=>ws.length - q.1) (0,[],[]) ⟨by simp,by simp,by simp,by simp⟩ (Qp [(0,15000),(1,18000),(2,18001)]) (JS [(0,15000),(1,18000),(2,18001)] zwa (by simp only [List.set_cons_zero,List.set_cons_succ,Nat.reduceAdd];simp only [go_sem,zwl];(repeat' (first|rfl|apply za|omega|exact fun h=>h|exact Exists.intro _ rfl))) (by simp [Qp]) (by simp;omega) (by omega)) fun q hq K' hL=>?_
    obtain ⟨k,l,m⟩:=q
    obtain ⟨q1,q2,q3,hinv⟩:=hq
    simp only at q1 q2 q3 hinv
    simp only
    rcases hd:ws.drop k with _|⟨w,r⟩
    ·have hk:=Qj hd
     rw [hd,goP] at hinv
     rw [← hinv]
     have e5:decide ((k:Int) < (((ws.map V.str).length:Nat):Int)) = false:=by simp;omega
     simp only [VQ]
     (have zx:=e5);refine zgo ?_;repeat' first|exact zt|apply zan|intro hc
     all_goals (refine Qf _ rfl ?_;simp only [go_sem];rw [zb (by simp)])
    ·obtain ⟨hk',hget,hr⟩:=Qe hd
     have hwm:=hmem w (zj hget)
     have hw:=Qd (k:=k) (by omega)
     have e5:decide ((k:Int) < (((ws.map V.str).length:Nat):Int)) = true:=by simp;omega
     rw [hd,goP] at hinv
     have hdo:=z1 w l m hwm (by omega) (by omega)
     have hdl:=amS w (l,m)
     rcases ho:wordOk w with _|_
     ·rw [ho] at hinv hdo
      simp only [zk,if_false] at hinv hdo
      rw [← hinv]
      simp only [VQ]
      (have zx:=za e5 (za hw hget));refine zgo ?_;repeat' first|exact zt|apply zan|intro hc
      all_goals (refine Qf _ rfl ?_;simp only [go_sem];first|done|rfl|exact ⟨_,_,rfl⟩|trace_state)
     ·rw [ho] at hinv hdo
      simp only [if_true] at hinv hdo
      generalize doR w (l,m) = p at *
      obtain ⟨l2,m2⟩:=p
      simp only at hdo hdl hinv
      (have zx:=za e5 (za hw hget));refine zgo ?_;repeat' first|exact zt|apply zan|intro hc
      refine hL _ (k + 1,l2,m2) (Qp [(1,9003),(2,9004)]) ⟨by simp only;omega,by simp only;omega,by simp only;omega,by simp only;rw [hr];exact hinv⟩ (by simp only;omega) (zwg [(1,9003),(2,9004)])
def UO (Γ:Env) (f:Nat):Prop:=∀ (s:List UInt8) (c:UInt8) (hs:s.length < 4294967281),EvC Γ f [V.str s,V.str [c]] (.sl 1 ((QU c s).map V.str))
def y9 (Γ:Env) (f:Nat):Prop:=∀ (s:List UInt8) (c:UInt8) (hs:s.length < 4294967281),EvN Γ f [V.str s,V.str [c]] (V.int ((((QU c s).length - 1:Nat)):Int))
def Wj (Γ:Env) (f:Nat):Prop:=∀ (s:List UInt8) (c:UInt8),EvN Γ f [V.str s,.sc (.int .u8 c.toNat)] (V.int (Lib.indexByte s c))
def Vb:=qd Proofs.Tryz.f93 []
def WF (Γ:Env) (f:Nat):Prop:=∀ (s:List UInt8) (hs:s.length < 2 ^ 30),EvC Γ f [V.str s] (.tup [.sl 1 ((vM s).1.map V.int),V.bool (vM s).2])
attribute [local go_sem] Qo.cells Qo.v Yo in
theorem abX {Γ:Env} {f:Nat} (h:Has Γ.P f 46 Vb.1.1.ac Vb.1.2) (z0:YU Γ 147) (z1:UO Γ 148) (z2:Vw Γ 149):WF Γ f:=by
 intro s hs
 refine Qn h zsi (by simp only [V.closed,Qa,and_self]) fun C hC hm=>?_
 subst hC
 simp only [Vb,qd,DC.ac]
 have hlen:=wg 43 s
 have hsp:=(z1 s 43 (by omega)).b
 have hset:vM s = if (QU 43 s).all XF then (YY (QU 43 s) Qs,true) else ([],false):=rfl
 rw [hset]
 generalize QU 43 s = L at *
 refine zgo ?_;repeat' first|exact zt|apply zan|intro hc
 refine Qz (ι:=Nat) (fun k=>k≤16∧(0 < k→L.all XF = true)) (fun k=>Yo [(0,V.str s),(4,.hd 0 0 (YY L (Qs.take k)).length),(12,.sl 12 (Qs.map Qo.v)),(13,V.int 16),(14,V.int k)] [(0,.buf true 1 ((YY L (Qs.take k)).map V.int))] 1) (fun k=>17 - k) 0 ⟨by omega,fun h=>absurd h (by omega)⟩ (Qp [(0,2000)]) (zwg [(0,2000)]) fun k hk K' hL=>?_
 obtain ⟨hk,hkn⟩:=hk
 rcases hd:Qs.drop k with _|⟨x,r⟩
 ·have hk16:=Qj hd
  rw [YJ] at hk16
  have hk16:k = 16:=by omega
  subst hk16
  have e3:Qs.take 16 = Qs:=zb (by rw [YJ];omega)
  have hall:=hkn (by omega)
  rw [e3,hall]
  refine zgo ?_;repeat' first|exact zt|apply zan|intro hc
  all_goals (refine Qf _ rfl ?_;simp only [go_sem];rw [zb (by simp)])
 ·obtain ⟨hk',hget,hr⟩:=Qe hd
  rw [YJ] at hk'
  have hx:=zj hget
  have hw:=Qd (k:=k) (by omega)
  have e1:decide ((k:Int) < 16) = true:=by simp;omega
  have hcs:=abC L k x hget
  have hol:(YY L (Qs.take k)).length≤16:=by
   rw [YY,zh]
   refine kD (kq _ _) ?_
   rw [zM];omega
  generalize YY L (Qs.take k) = out at *
  (have zx:=za e1 hget);refine zgo ?_;repeat' first|exact zt|apply zan|intro hc
  refine Qt (ι:=Nat) (fun j=>j≤L.length∧(L.take j).all XF = true) (fun j=>[(7,V.bool ((L.take j).all fun n=>YC n x)),(21,V.int j)]) (fun j=>L.length - j) 0 (by omega) ⟨by omega,by simp⟩ zol zlt (by simp only [Nat.reduceAdd,ovT,Jn,Nat.reduceEqDiff,reduceIte,Xk,W8,aiv,u32,u33,u34,u35,u36,u37,u38,u39,and_self,and_true,true_and];exact ⟨rfl,rfl⟩) fun j hj K'' hL2=>?_
  obtain ⟨hj,hjk⟩:=hj
  simp only [ovT,Jn,Nat.reduceEqDiff,reduceIte]
  rcases hdj:L.drop j with _|⟨y,r2⟩
  ·have hjl:=Qj hdj
   have e2:decide ((j:Int) < (((L.map V.str).length:Nat):Int)) = false:=by simp;omega
   have e3:L.take j = L:=zb hjl
   rw [e3] at hjk ⊢
   rcases hin:amC L x with _|_
   ·have hin2:(L.all fun n=>YC n x) = false:=hin
    rw [hin2]
    rw [hin] at hcs
    (have zx:=za e2 hw);refine zgo ?_;repeat' first|exact zt|apply zan|intro hc
    simp only [zk,if_false,zY] at hcs
    refine hL _ (k + 1) (Qp []) ⟨by omega,fun _=>hjk⟩ (by omega) ?_
    rw [hcs]
    exact zwg []
   ·have hin2:(L.all fun n=>YC n x) = true:=hin
    rw [hin2]
    rw [hin] at hcs
    (have zx:=za e2 hw);refine zgo ?_;repeat' first|exact zt|apply zan|intro hc
    rw [if_pos rfl] at hcs
    have hb:List.take out.length (List.map V.int out)++[V.int x.code] = (out++[x.code]).map V.int:=by
     rw [zb (by simp),zG];rfl
    have hln:out.length + 1 = (out++[x.code]).length:=by simp
    rw [hb,hln]
    refine hL _ (k + 1) (Qp [(0,16001)]) ⟨by omega,fun _=>hjk⟩ (by omega) ?_
    rw [hcs]
    exact zwg [(0,16001)]
  ·obtain ⟨hj',hgj,hrj⟩:=Qe hdj
   have hwj:=Qd (k:=j) (by omega)
   have e2:decide ((j:Int) < (((L.map V.str).length:Nat):Int)) = true:=by simp;omega
   have hall:((L.take (j + 1)).all fun n=>YC n x) = (((L.take j).all fun n=>YC n x) && YC y x):=by
    rw [zB,hgj];simp
   have hnm:=(z2 x y).b
   have h1:=akI hx y
   have h2:=aiH (n:=y) (s:=x)
   simp only [aku,← h1,h2,Qo.v,Qo.cells] at hnm
   rcases hy:XF y with _|_
   ·rw [hy] at hnm
    have e3:L.all XF = false:=by
     rw [ky];exact ⟨y,zj hgj,by simp [hy]⟩
    rw [e3]
    (have zx:=za e2 (za hwj hgj));refine zgo ?_;repeat' first|exact zt|apply zan|intro hc
    all_goals (refine Qf _ rfl ?_;simp only [go_sem];first|done|rfl|exact ⟨_,_,rfl⟩|trace_state)
   ·rw [hy] at hnm
    have hjk2:(L.take (j + 1)).all XF = true:=by rw [zB,hgj];simp [hy];simpa using hjk
    rcases hb:((L.take j).all fun n=>YC n x) with _|_
    ·rw [hb,zD] at hall
     (have zx:=za e2 (za hwj hgj));refine zgo ?_;repeat' first|exact zt|apply zan|intro hc
     all_goals exact hL2 _ (j + 1) (by rw [hall];simp only [Nat.reduceAdd,ovT,Jn,Nat.reduceEqDiff,reduceIte,Xk,W8,aiv,u32,u33,u34,u35,u36,u37,u38,u39,and_self,and_true,true_and]) ⟨by omega,hjk2⟩ (by omega) zoe
    ·rw [hb,zC] at hall
     (have zx:=za e2 (za hwj hgj));refine zgo ?_;repeat' first|exact zt|apply zan|intro hc
     all_goals exact hL2 _ (j + 1) (by rw [hall];simp only [Nat.reduceAdd,ovT,Jn,Nat.reduceEqDiff,reduceIte,Xk,W8,aiv,u32,u33,u34,u35,u36,u37,u38,u39,and_self,and_true,true_and]) ⟨by omega,hjk2⟩ (by omega) zoe
def abS (lt:Int→Int→Bool) (out:List Int) (x:Int):Nat→Nat
 | 0=>0
 | k + 1=>if lt x (out.getD k 0) = true then abS lt out x k else k + 1
theorem ajH (lt:Int→Int→Bool) (out:List Int) (x:Int):∀ k,abS lt out x k≤k
 | 0=>zi _
 | k + 1=>by
   rw [abS];split
   ·exact Nat.le_succ_of_le (ajH lt out x k)
   ·exact zi _
def aoe (lt:Int→Int→Bool) (out:List Int) (x:Int):List Int:=out.take (abS lt out x out.length)++[x]++out.drop (abS lt out x out.length)
def Kv (lt:Int→Int→Bool) (l:List Int):List Int:=l.foldl (aoe lt) []
theorem aod (lt:Int→Int→Bool) (out:List Int) (x:Int):(aoe lt out x).length = out.length + 1:=by
 have:=ajH lt out x out.length
 simp [aoe];omega
theorem aeQ (lt:Int→Int→Bool):∀ (l out:List Int),(l.foldl (aoe lt) out).length = out.length + l.length
 | [],out=>by simp
 | x :: r,out=>by rw [List.foldl_cons,aeQ lt r,aod];simp;omega
theorem agH (lt:Int→Int→Bool) (l:List Int):(Kv lt l).length = l.length:=by rw [Kv,aeQ];simp
theorem alG (lt:Int→Int→Bool) (x:Int):Kv lt [x] = [x]:=by simp [Kv,aoe,abS]
abbrev ltS (x y:Int):Bool:=decide (xl y < xl x)
theorem amz (out:List Int) (x:Int):∀ k,abS ltS out x k = amA out x k
 | 0=>rfl
 | k + 1=>by rw [abS,amA,amz out x k];simp only [ltS,zS]
theorem apF (l:List Int):Kv ltS l = jO l:=by
 have:aoe ltS = aif:=by funext out x;rw [aoe,aif,amz]
 rw [Kv,jO,this]
def abO (lt:Int→Int→Bool) (xs:List Int) (a i:Nat):List Int:=xs.take a++(Kv lt ((xs.take i).drop a)++xs.drop i)
def JY:=qd Proofs.Tryz.f253 []
def YB (Γ:Env) (f:Nat):Prop:=∀ (l:List Int) (hl:l.length < 2 ^ 34),EvW Γ f [.sl 1 (l.map V.int)] 1 (l.map V.int)
theorem qQ {Γ:Env} {f:Nat} (h:Has Γ.P f 8 JY.1.1.ac JY.1.2) :YB Γ f:=by
 intro l hl
 refine KB h (by simp) (by first|exact xA _|exact xr _) fun C hC hm=>?_
 subst hC
 simp only [JY,qd,DC.ac]
 rcases l with _|⟨x,r⟩
 ·repeat' (first|(refine zsk ?_;intro K' hK)|refine zsp ?_|(refine zsc ?_ ?_<;>intro hc<;>first|exact znh|try simp only [znz] at hc)|simp (maxSteps:=1000000) only [go_sem]|(refine hK _ ?_;clear hK K')|apply zan|exact zsq|fail)
  intro t
  rcases t with _|_
  ·repeat' (first|(refine zsk ?_;intro K' hK)|refine zsp ?_|(refine zsc ?_ ?_<;>intro hc<;>first|exact znh|try simp only [znz] at hc)|simp (maxSteps:=1000000) only [go_sem]|(refine hK _ ?_;clear hK K')|apply zan|exact zsq|fail)
   all_goals (refine adi (xs:=[]) _ _ rfl ?_ ?_<;>first|rfl|(simp;done))
  ·repeat' (first|(refine zsk ?_;intro K' hK)|refine zsp ?_|(refine zsc ?_ ?_<;>intro hc<;>first|exact znh|try simp only [znz] at hc)|simp (maxSteps:=1000000) only [go_sem]|(refine hK _ ?_;clear hK K')|apply zan|exact zsq|fail)
   all_goals (refine adi (xs:=[]) _ _ rfl ?_ ?_<;>first|rfl|(simp;done))
 ·repeat' (first|(refine zsk ?_;intro K' hK)|refine zsp ?_|(refine zsc ?_ ?_<;>intro hc<;>first|exact znh|try simp only [znz] at hc)|simp (maxSteps:=1000000) only [go_sem]|(refine hK _ ?_;clear hK K')|apply zan|exact zsq|fail)
  all_goals first
   | (simp only [zh,List.length_cons] at hl ⊢;omega)
   | (refine adi (xs:=V.int x :: List.map V.int r) _ _ rfl ?_ ?_<;>first|rfl|(simp;done))
theorem alV {lt:Int→Int→Bool} {xs:List Int} {a:Nat} (h:a < xs.length):abO lt xs a (a + 1) = xs:=by
 have e:(xs.take (a + 1)).drop a = [xs[a]]:=by
  rw [zB,zf h,kE (by simp;omega),kc (by simp;omega)];rfl
 rw [abO,e,alG,List.singleton_append,← zQ h,zR]
def Ku (P S:List Int) (x:Int) (R:List Int) (q:Nat):List Int:=P++(S.take q++x :: (S.drop q++R))
theorem alA {P S R:List Int} {x:Int} {q:Nat}:(Ku P S x R q).length = P.length + S.length + 1 + R.length:=by
 simp only [Ku,zF,List.length_cons,zM,kO];omega
theorem apC {P S R:List Int} {x:Int} {q:Nat} (h:q≤S.length):(Ku P S x R q)[P.length + q]? = some x:=by
 have:(S.take q).length = q:=by simp;omega
 rw [Ku,k7 (by omega),k7 (by omega),this]
 simp
theorem apB {P S R:List Int} {x:Int} {q:Nat} (h:q < S.length):(Ku P S x R (q + 1))[P.length + q]? = some S[q]:=by
 rw [Ku,k7 (by omega),List.getElem?_append_left (by simp;omega),List.getElem?_take]
 simp [h]
theorem alJ (S y x:Int) (T:List Int):∀ A:List Int,((A++y :: S :: T).set (A.length + 1) y).set A.length x = A++x :: y :: T
 | []=>rfl
 | z :: A=>by
   have:=alJ S y x T A
   simp only [List.cons_append,List.length_cons,List.set_cons_succ,this]
theorem alz {P S R:List Int} {x:Int} {q:Nat} (h:q < S.length):((Ku P S x R (q + 1)).set (P.length + (q + 1)) S[q]).set (P.length + q) x = Ku P S x R q:=by
 have e1:S.take (q + 1) = S.take q++[S[q]]:=by rw [zB,zf h];rfl
 have e2:S.drop q = S[q] :: S.drop (q + 1):=zQ h
 have e3:(S.take q).length = q:=by simp;omega
 have e4:Ku P S x R (q + 1) = (P++S.take q)++S[q] :: x :: (S.drop (q + 1)++R):=by rw [Ku,e1];simp only [zW,List.cons_append,List.nil_append]
 have e5:Ku P S x R q = (P++S.take q)++x :: S[q] :: (S.drop (q + 1)++R):=by rw [Ku,e2];simp only [zW,List.cons_append,List.nil_append]
 have hl:(P++S.take q).length = P.length + q:=by rw [zF,e3]
 have hl2:P.length + (q + 1) = (P++S.take q).length + 1:=by omega
 rw [e4,e5,hl2,← hl]
 exact alJ _ _ _ _ _
def Q8:=qd Proofs.Tryz.f294 [⟨fun _=>false,[8,9,12,13,14,16],.one 0 (.one 1 (.one 2 (.one 3 (.one 4 (.one 5 (.one 6 (.one 7 (.one 10 (.one 11 (.or 8 (.or 9 (.one 12 (.one 13 (.one 14 (.one 15 (.one 16 (.one 17 (.done))))))) (.or 12 (.or 9 (.one 13 (.one 14 (.one 15 (.one 16 (.one 17 (.done)))))) (.or 13 (.one 9 (.one 14 (.one 15 (.one 16 (.one 17 (.done)))))) (.done))) (.done))) (.or 12 (.or 8 (.or 9 (.one 13 (.one 14 (.one 15 (.one 16 (.one 17 (.done)))))) (.or 13 (.one 9 (.one 14 (.one 15 (.one 16 (.one 17 (.done)))))) (.done))) (.or 13 (.one 8 (.one 9 (.one 14 (.one 15 (.one 16 (.one 17 (.done))))))) (.done))) (.done))))))))))))⟩,⟨fun _=>true,[14],zoc 0 17⟩]
def Jq (Γ:Env) (f:Nat):Prop:=∀ (xs:List Int) (a b:Nat) (g:Nat) (c:Int→Int→Int) (hcmp:∀ x y,EvN Γ g [V.int x,V.int y] (V.int (c x y))) (hab:a≤b) (hb:b≤xs.length) (hx:xs.length < 2 ^ 34),EvL Γ f [V.int a,V.int b,.clo g []] 1 (xs.map V.int) (.tup []) ((if a = b then xs.map V.int else (abO (fun x y=>decide (c x y < 0)) xs a b).map V.int))
attribute [local go_sem] Yo in
theorem W3 {Γ:Env} {f:Nat} (h:Has Γ.P f 53 Q8.1.1.ac Q8.1.2) :Jq Γ f:=by
 intro xs a b g c hcmp hab hb hx
 refine vl h (by simp) (by simp only [V.closed,Qa,V.noSl,UJ,and_self,and_true,true_and]) fun C hC hm=>?_
 subst hC
 simp only [Q8,qd,DC.ac]
 have hwa:=Qd (k:=a) (by omega)
 by_cases he:a = b
 ·subst he
  rw [if_pos rfl]
  have e1:decide (((a + 1:Nat):Int) < (a:Int)) = false:=by simp;omega
  (have zx:=hwa);refine zgo ?_;repeat' first|exact zt|apply zan|intro hc
  refine Qz (ι:=Unit) (fun _=>True) (fun _=>Yo [(0,.hd 0 0 (xs.map V.int).length),(1,V.int a),(2,V.int a),(3,.clo g []),(8,V.int (a + 1:Nat))] [(0,.buf true 1 (xs.map V.int))] 1) (fun _=>0) () trivial (Qp []) (zwg []) fun j hj K'' hL2=>?_
  (have zx:=e1);refine zgo ?_;repeat' first|exact zt|apply zan|intro hc
  all_goals first|(refine abB _ rfl rfl (by simp only [go_sem]) ?_<;>first|rfl|(simp;done))
 ·rw [if_neg he]
  (have zx:=hwa);refine zgo ?_;repeat' first|exact zt|apply zan|intro hc
  generalize hlt:(fun x y=>decide (c x y < 0)) = lt
  have hlt2:∀ x y,decide (c x y < 0) = lt x y:=by intro x y;rw [← hlt]
  refine Qz (ι:=Nat) (fun i=>a + 1≤i∧i≤b) (fun i=>Yo [(0,.hd 0 0 (xs.map V.int).length),(1,V.int a),(2,V.int b),(3,.clo g []),(8,V.int i)] [(0,.buf true 1 ((abO lt xs a i).map V.int))] 1) (fun i=>b - i) (a + 1) ⟨by omega,by omega⟩ (Qp []) (JS [] zwa (by rw [alV (by omega)];simp only [go_sem,zwl];(repeat' (first|rfl|apply za|omega|exact fun h=>h|exact Exists.intro _ rfl))) (by simp) (by simp) (by omega)) fun i hi K' hL=>?_
  obtain ⟨hi1,hi2⟩:=hi
  by_cases hib:i = b
  ·subst hib
   have e1:decide ((i:Int) < (i:Int)) = false:=by simp
   (have zx:=e1);refine zgo ?_;repeat' first|exact zt|apply zan|intro hc
   all_goals first|(refine abB _ rfl rfl (by simp only [go_sem]) ?_<;>first|rfl|(simp;done))
  ·have e1:decide ((i:Int) < (b:Int)) = true:=by simp;omega
   have hwi:=Qd (k:=i) (by omega)
   obtain ⟨x,hget⟩:∃ x,xs[i]? = some x:=⟨_,zf (by omega)⟩
   have hdx:xs.drop i = x :: xs.drop (i + 1):=by
    rw [zQ (by omega)];congr 1
    rw [zf (by omega)] at hget;exact kU hget
   have hP:(xs.take a).length = a:=by simp;omega
   have hS:(Kv lt ((xs.take i).drop a)).length = i - a:=by rw [agH];simp;omega
   have hnext:abO lt xs a (i + 1) = xs.take a++(aoe lt (Kv lt ((xs.take i).drop a)) x++xs.drop (i + 1)):=by
    have:(xs.take (i + 1)).drop a = (xs.take i).drop a++[x]:=by
     rw [zB,hget,kE (by simp;omega)];rfl
    rw [abO,this,Kv,List.foldl_append];rfl
   have hnow:abO lt xs a i = Ku (xs.take a) (Kv lt ((xs.take i).drop a)) x (xs.drop (i + 1)) (i - a):=by
    rw [abO,hdx,Ku,← hS,zP,List.drop_length];rfl
   have hcell:∀ q,Ku (xs.take a) (Kv lt ((xs.take i).drop a)) x (xs.drop (i + 1)) q = Ku (xs.take a) (Kv lt ((xs.take i).drop a)) x (xs.drop (i + 1)) q:=fun q=>rfl
   rw [hnow]
   generalize Kv lt ((xs.take i).drop a) = S at *
   have hPg:=hP
   generalize xs.take a = P at *
   have hR:(xs.drop (i + 1)).length = xs.length - (i + 1):=kO
   generalize xs.drop (i + 1) = R at *
   (have zx:=e1);refine zgo ?_;repeat' first|exact zt|apply zan|intro hc
   refine Qz (ι:=Nat) (fun q=>q≤i - a∧abS lt S x q = abS lt S x S.length) (fun q=>Yo [(0,.hd 0 0 (xs.map V.int).length),(1,V.int a),(2,V.int b),(3,.clo g []),(8,V.int i),(9,V.int (a + q:Nat))] [(0,.buf true 1 ((Ku P S x R q).map V.int))] 1) (fun q=>q) (i - a) ⟨by omega,by rw [hS]⟩ (Qp []) (JS [] (by rw [show a + (i - a) = i by omega];simp only [go_sem,zwl];(repeat' (first|rfl|apply za|omega|exact fun h=>h|exact Exists.intro _ rfl))) zwa (by simp) (by simp) (by omega)) fun q hq K'' hL2=>?_
   obtain ⟨hq1,hq2⟩:=hq
   have hfin:abS lt S x S.length = q→Ku P S x R q = abO lt xs a (i + 1):=by
    intro h
    rw [hnext,aoe,h];simp only [Ku,zW,List.singleton_append,List.cons_append,List.nil_append]
   have hlen:(Ku P S x R q).length = xs.length:=by rw [alA,hP,hS,hR];omega
   have gx:=apC (P:=P) (R:=R) (x:=x) (q:=q) (S:=S) (by omega)
   rw [hP] at gx
   rcases q with _|q
   ·have e2:decide (((a + 0:Nat):Int) > (a:Int)) = false:=by simp
    have hf:=hfin hq2.symm
    (have zx:=za e2 hwi);refine zgo ?_;repeat' first|exact zt|apply zan|intro hc
    rw [hf]
    exact hL _ (i + 1) (Qp []) ⟨by omega,by omega⟩ (by omega) (zwg [])
   ·have hqS:q < S.length:=by omega
    have e2:decide (((a + (q + 1):Nat):Int) > (a:Int)) = true:=zu (by omega)
    have hwj:IntKind.i64.wrap (((a + (q + 1):Nat):Int) - 1) = ((a + q:Nat):Int):=by rw [Jc (by omega) (by omega)];omega
    have gy:=apB (P:=P) (R:=R) (x:=x) (q:=q) (S:=S) hqS
    rw [hP] at gy
    have hset:=alz (P:=P) (R:=R) (x:=x) (q:=q) (S:=S) hqS
    rw [hP] at hset
    have hyd:S.getD q 0 = S[q]:=by rw [zo,zf hqS];rfl
    rw [abS,hyd] at hq2
    generalize S[q] = y at *
    have hcc:=(hcmp x y).b
    have hd:=hlt2 x y
    rcases hl:lt x y with _|_
    ·rw [hl] at hq2 hd
     simp only [zk,if_false] at hq2
     have hf:=hfin hq2.symm
     (have zx:=za e2 (za hwi (za hwj (za gx (za gy hd)))));refine zgo ?_;repeat' first|exact zt|apply zan|intro hc
     all_goals
      rw [hf]
      exact hL _ (i + 1) (Qp []) ⟨by omega,by omega⟩ (by omega) (zwg [])
    ·rw [hl] at hq2 hd
     simp only [if_true] at hq2
     have hs1:((List.map V.int (Ku P S x R (q + 1))).set (a + (q + 1)) (V.int y))[a + q]? = some (V.int y):=by
      rw [List.getElem?_set_ne (by omega),zq,gy];rfl
     have hs2:((List.map V.int (Ku P S x R (q + 1))).set (a + (q + 1)) (V.int y)).set (a + q) (V.int x) = List.map V.int (Ku P S x R q):=by
      rw [← hset,List.map_set,List.map_set]
     (have zx:=za e2 (za hwi (za hwj (za gx (za gy (za hd (za hs1 hs2)))))));refine zgo ?_;repeat' first|exact zt|apply zan|intro hc
     all_goals exact hL2 _ q (Qp []) ⟨by omega,hq2⟩ (by omega) (zwg [])
theorem alW {lt:Int→Int→Bool} (xs:List Int):abO lt xs 0 xs.length = Kv lt xs:=by simp [abO]
theorem ap4 (lt:Int→Int→Bool) (xs:List Int):(if 0 = xs.length then xs.map V.int else (abO lt xs 0 xs.length).map V.int) = (Kv lt xs).map V.int:=by
 split
 ·rename_i h
  have:xs = []:=ki h.symm
  subst this;rfl
 ·rw [alW]
def JB:=qd Proofs.Tryz.f284 []
def Yf (Γ:Env) (f:Nat):Prop:=∀ (xs:List Int) (g:Nat) (c:Int→Int→Int) (hcmp:∀ x y,EvN Γ g [V.int x,V.int y] (V.int (c x y))) (hx:xs.length≤20),EvL Γ f [V.int xs.length,.clo g []] 1 (xs.map V.int) (.tup []) (((Kv (fun x y=>decide (c x y < 0)) xs).map V.int))
attribute [local go_sem] Yo in
theorem KA {Γ:Env} {f:Nat} (h:Has Γ.P f 63 JB.1.1.ac JB.1.2) (z0:Jq Γ 294):Yf Γ f:=by
 intro xs g c hcmp hx
 refine vl h (by simp) (by simp only [V.closed,Qa,V.noSl,UJ,and_self,and_true,true_and]) fun C hC hm=>?_
 subst hC
 simp only [JB,qd,DC.ac]
 have hi:=z0 xs 0 xs.length g c hcmp (by omega) (by omega) (by omega)
 rw [ap4] at hi
 have hi0:EvL C.env 294 [V.int 0,V.int xs.length,.clo g []] 1 (xs.map V.int) (.tup []) ((Kv (fun x y=>decide (c x y < 0)) xs).map V.int):=hi
 have hln:(Kv (fun x y=>decide (c x y < 0)) xs).length = xs.length:=agH _ _
 have e9:decide ((20:Int) < (xs.length:Int)) = false:=by simp;omega
 by_cases h20:xs.length = 20
 ·have hj:=z0 (Kv (fun x y=>decide (c x y < 0)) xs) 20 20 g c hcmp (by omega) (by omega) (by omega)
  rw [if_pos rfl] at hj
  generalize Kv (fun x y=>decide (c x y < 0)) xs = ys at *
  rw [h20] at hi0 e9 ⊢
  have hj0:EvL C.env 294 [V.int 20,V.int 20,.clo g []] 1 (ys.map V.int) (.tup []) (ys.map V.int):=hj
  have e20:((20:Nat):Int) = 20:=rfl
  rw [e20] at hi0 e9 ⊢
  refine zgo ?_;repeat' first|exact zt|apply zan|intro hc
  refine Qz (ι:=Bool) (fun _=>True) (fun t=>Yo [(0,.hd 0 0 (xs.map V.int).length),(1,V.int 20),(2,.clo g []),(6,V.int 20),(7,V.int (if t then 0 else 20)),(8,V.int (if t then 20 else 40))] [(0,.buf true 1 ((if t then xs else ys).map V.int))] 1) (fun t=>if t then 1 else 0) true trivial (Qp []) (zwg []) fun t ht K' hL=>?_
  rcases t with _|_
  ·simp only [zk,if_false]
   refine zgo ?_;repeat' first|exact zt|apply zan|intro hc
   refine Qz (ι:=Unit) (fun _=>True) (fun _=>Yo [(0,.hd 0 0 (xs.map V.int).length),(1,V.int 20),(2,.clo g []),(6,V.int 20)] [(0,.buf true 1 (ys.map V.int))] 1) (fun _=>0) () trivial (Qp []) (zwg []) fun u hu K'' hL2=>?_
   refine zgo ?_;repeat' first|exact zt|apply zan|intro hc
   all_goals first|(refine abB _ rfl rfl (by simp only [go_sem]) ?_;done)|(refine abB _ rfl rfl (by simp only [go_sem]) ?_;rfl)
  ·simp only [if_true]
   refine zgo ?_;repeat' first|exact zt|apply zan|intro hc
   all_goals exact hL _ false (Qp []) trivial (by simp) (zwg [])
 ·generalize Kv (fun x y=>decide (c x y < 0)) xs = ys at *
  have e8:decide ((20:Int)≤(xs.length:Int)) = false:=by simp;omega
  refine zgo ?_;repeat' first|exact zt|apply zan|intro hc
  refine Qz (ι:=Unit) (fun _=>True) (fun _=>Yo [(0,.hd 0 0 (xs.map V.int).length),(1,V.int xs.length),(2,.clo g []),(6,V.int 20),(7,V.int 0),(8,V.int 20)] [(0,.buf true 1 (xs.map V.int))] 1) (fun _=>0) () trivial (Qp []) (zwg []) fun u hu K' hL=>?_
  (have zx:=e8);refine zgo ?_;repeat' first|exact zt|apply zan|intro hc
  refine Qz (ι:=Unit) (fun _=>True) (fun _=>Yo [(0,.hd 0 0 (xs.map V.int).length),(1,V.int xs.length),(2,.clo g []),(6,V.int 20)] [(0,.buf true 1 (ys.map V.int))] 1) (fun _=>0) () trivial (Qp []) (zwg []) fun u hu K' hL=>?_
  (have zx:=e9);refine zgo ?_;repeat' first|exact zt|apply zan|intro hc
  all_goals first|(refine abB _ rfl rfl (by simp only [go_sem]) ?_;done)|(refine abB _ rfl rfl (by simp only [go_sem]) ?_;rfl)
def Q9:=qd Proofs.Tryz.f254 []
def Jr (Γ:Env) (f:Nat):Prop:=∀ (xs:List Int) (g:Nat) (c:Int→Int→Int) (hcmp:∀ x y,EvN Γ g [V.int x,V.int y] (V.int (c x y))) (hx:xs.length≤20),EvL Γ f [.clo g []] 1 (xs.map V.int) (.tup []) (((Kv (fun x y=>decide (c x y < 0)) xs).map V.int))
theorem W4 {Γ:Env} {f:Nat} (h:Has Γ.P f 9 Q9.1.1.ac Q9.1.2) (z0:Yf Γ 284):Jr Γ f:=by
 intro xs g c hcmp hx
 refine vl h (by simp) (by simp only [V.closed,Qa,V.noSl,UJ,and_self,and_true,true_and]) fun C hC hm=>?_
 subst hC
 simp only [Q9,qd,DC.ac]
 have hi:=z0 xs g c hcmp hx
 have e:((xs.map V.int).length:Int) = (xs.length:Int):=by simp
 (have zx:=e);refine zgo ?_;repeat' first|exact zt|apply zan|intro hc
 all_goals first|(refine abB _ rfl rfl (by simp only [go_sem]) ?_;done)|(refine abB _ rfl rfl (by simp only [go_sem]) ?_;rfl)
theorem aer (c:Int):0≤xl c∧xl c≤512:=by
 unfold xl;split
 ·exact adG _ _
 ·exact ⟨by omega,by omega⟩
def Xl:=qd Proofs.Tryz.f255 []
def WP (Γ:Env) (f:Nat):Prop:=∀ (x y:Int),EvN Γ f [V.int x,V.int y] (V.int (xl y - xl x))
theorem wZ {Γ:Env} {f:Nat} (h:Has Γ.P f 10 Xl.1.1.ac Xl.1.2) (z0:XJ Γ 256):WP Γ f:=by
 intro x y
 refine Qb h zsi zcl zcl fun C hC hm=>?_
 subst hC
 simp only [Xl,qd,DC.ac]
 have h1:=aer x
 have h2:=aer y
 have hw:IntKind.i64.wrap (xl y - xl x) = xl y - xl x:=Jc (by omega) (by omega)
 (have zx:=hw);refine zgo ?_;repeat' first|exact zt|apply zan|intro hc
 all_goals (refine Qf _ rfl ?_;simp only [go_sem])
def Ws:=qd Proofs.Tryz.f219 []
def V6 (Γ:Env) (f:Nat):Prop:=∀ (l:List Int) (hl:l.length≤20),EvW Γ f [.sl 1 (l.map V.int)] 1 ((jO l).map V.int)
theorem aa0 {Γ:Env} {f:Nat} (h:Has Γ.P f 9 Ws.1.1.ac Ws.1.2) (z0:YB Γ 253) (z1:Jr Γ 254) (z2:WP Γ 255):V6 Γ f:=by
 intro l hl
 refine KB h (by simp) (by first|exact xA _|exact xr _) fun C hC hm=>?_
 subst hC
 simp only [Ws,qd,DC.ac]
 have hs:=z1 l 255 (fun x y=>xl y - xl x) (fun x y=>z2 x y) hl
 have e:(fun x y:Int=>decide (xl y - xl x < 0)) = ltS:=by
  funext x y;simp only [ltS];congr 1;apply propext;omega
 rw [e,apF] at hs
 have hln:=acz l
 refine zgo ?_;repeat' first|exact zt|apply zan|intro hc
 all_goals first|(refine adi _ _ rfl ?_ ?_<;>first|rfl|(simp;done)|(simp only [zh];omega))
def J5:=qd Proofs.Tryz.f220 []
def YP (Γ:Env) (f:Nat):Prop:=∀ (x:Int) (m:List Int) (hm2:m.length < 2 ^ 62),EvN Γ f [V.int x,.ro [.sl 1 (m.map V.int)] 0] (V.bool (m.contains x))
theorem jA {Γ:Env} {f:Nat} (h:Has Γ.P f 7 J5.1.1.ac J5.1.2) (z0:Qw Γ 117):YP Γ f:=by
 intro x m hm2
 refine Qb h zsi zcl zcl fun C hC hm=>?_
 subst hC
 simp only [J5,qd,DC.ac]
 have e:decide (XO x 0 m≥0) = m.contains x:=by
  have:=Kz x m 0
  rw [Zt];simp only [zS,kZ];exact this
 (have zx:=e);refine zgo ?_;repeat' first|exact zt|apply zan|intro hc
 all_goals (refine Qf _ rfl ?_;simp only [go_sem])
theorem ap5 (c:UInt8):decide (Lib.indexByte [45,33,43] c≥0) = decide (c = 45∨c = 33∨c = 43):=by
 by_cases h1:c = 45
 ·subst h1;decide
 ·by_cases h2:c = 33
  ·subst h2;decide
  ·by_cases h3:c = 43
   ·subst h3;decide
   ·have:Lib.indexByte [45,33,43] c = -1:=by
     simp [Lib.indexByte,Ne.symm h1,Ne.symm h2,Ne.symm h3]
    rw [this];simp [h1,h2,h3]
def sgn (c:UInt8):List UInt8:=if c = 0 then [] else [c]
theorem abW {p:Int→Bool} {l:List Int} {k:Nat} {x:Int} (h:l[k]? = some x):(l.take (k + 1)).filter p = (l.take k).filter p++(if p x = true then [x] else []):=by
 rw [zB,h,kJ]
 congr 1
 by_cases hx:p x = true<;>simp [hx]
def Yv:=qd Proofs.Tryz.f186 [⟨fun _=>false,[6,7],.one 0 (.one 1 (.one 2 (.one 3 (.one 4 (.one 5 (.or 6 (.one 7 (.one 8 (.one 9 (.one 10 (.one 11 (.one 12 (.one 13 (.one 14 (.done))))))))) (.or 7 (.one 6 (.one 8 (.one 9 (.one 10 (.one 11 (.one 12 (.one 13 (.one 14 (.done))))))))) (.done))))))))⟩,zhn 6]
def Xh (Γ:Env) (f:Nat):Prop:=∀ (w:List UInt8) (l k:List Int) (hw:w.length < 2 ^ 30) (hr:ahR (l,k)) (hk:k.length < 2 ^ 30),EvT Γ f [V.str w] 1 1 (l.map V.int) (k.map V.int) (V.bool (wordOk w)) (((if wordOk w then doR w (l,k) else (l,k)).1).map V.int) (((if wordOk w then doR w (l,k) else (l,k)).2).map V.int)
attribute [local go_sem] zP Zg Yo in
theorem xd {Γ:Env} {f:Nat} (h:Has Γ.P f 129 Yv.1.1.ac Yv.1.2) (z0:V6 Γ 219) (z1:Wj Γ 162) (z2:WF Γ 93) (z3:YP Γ 220) (z4:Qw Γ 117):Xh Γ f:=by
 intro w l k hw hr hk
 refine adf h (by simp) (by simp only [V.closed,Qa,V.noSl,UJ,and_self,and_true,true_and]) fun C hC hm=>?_
 subst hC
 simp only [Yv,qd,DC.ac]
 have hl16:l.length≤16:=hr.len
 by_cases h0:w = anr
 ·have e1:wordOk w = true:=by simp [wordOk,h0]
  have e2:doR w (l,k) = (jO l,k):=by simp [doR,h0]
  rw [e1,if_pos rfl,e2]
  have e3:(w == [64,115,116,114,101,110,103,116,104]) = true:=by simp [h0,anr]
  (have zx:=e3);refine zgo ?_;repeat' first|exact zt|apply zan|intro hc
  all_goals first
   | (refine UC _ _ _ _ _ rfl (by simp only [go_sem]) rfl rfl rfl (by decide) (by decide) (by decide) ⟨_,rfl⟩ ⟨_,rfl⟩ ?_ ?_ ?_ ?_<;>first|rfl|(simp;done))
 ·have e3:(w == [64,115,116,114,101,110,103,116,104]) = false:=aes h0
  have ed:doR w (l,k) = doG (Yn w).1 (vM (Yn w).2).1 (l,k):=by rw [doR,aes h0];rfl
  have eo:wordOk w = (vM (Yn w).2).2:=by rw [wordOk,aes h0,kF]
  have hlen:(Yn w).2.length≤w.length:=by
   cases w with
   | nil=>simp [Yn]
   | cons c r=>rw [Kt];split<;>simp
  have hs:=(z2 (Yn w).2 (by omega)).b
  have hsl:=afc (Yn w).2
  have hnd:=alL (Yn w).2
  rw [ed,eo]
  refine aaw fun K' hK=>?_
  simp (maxSteps:=1000000) only [go_sem]
  refine hK _ ?_
  clear hK
  clear K'
  (try simp only [go_sem])
  refine aax ?_
  refine aaw fun K' hK=>?_
  simp (maxSteps:=1000000) only [go_sem,e3]
  refine hK _ ?_
  clear hK
  clear K'
  (try simp only [go_sem])
  refine acp ⟨_,rfl,fun hc=>Bool.noConfusion hc,fun hc=>?_⟩
  refine aj5 ?_
  (try simp only [go_sem])
  refine aaw fun K' hK=>?_
  simp (maxSteps:=1000000) only [go_sem]
  refine hK _ ?_
  clear hK
  clear K'
  (try simp only [go_sem])
  have hcut:∃ good:Unit→Prop,good ()∧True:=⟨fun _=>True,trivial,trivial⟩
  refine akc (ι:=Unit) (fun _=>True) (fun _=>Yo [(0,.ptr 0 0),(1,V.str (Yn w).2),(5,V.str (sgn (Yn w).1))] [(0,.box true [.hd 3 0 (l.map V.int).length,.hd 4 0 (k.map V.int).length]),(1,.dead),(2,.dead),(3,.buf true 1 (l.map V.int)),(4,.buf true 1 (k.map V.int))] 5) (fun K' hK'=>?_) (fun _ _=>?_)
  ·rcases w with _|⟨c,r⟩
   ·refine zgo ?_;repeat' first|exact zt|apply zan|intro hc
    all_goals exact hK' _ () (Qp []) trivial (zwg [])
   ·have hib:=ap5 c
    by_cases hc:c = 45∨c = 33∨c = 43
    ·have hsv:Yn (c :: r) = (c,r):=by rw [Kt,if_pos hc]
     rw [zu hc] at hib
     have hsg:sgn c = [c]:=by rw [sgn,if_neg];rintro rfl;simp at hc
     have e4:(c :: r != []) = true:=rfl
     simp only [hsv,hsg] at hK'
     (have zx:=za hib e4);refine zgo ?_;repeat' first|exact zt|apply zan|intro hc
     all_goals exact hK' _ () (Qp []) trivial (zwg [])
    ·have hsv:Yn (c :: r) = (0,c :: r):=by rw [Kt,if_neg hc]
     have hsg:sgn 0 = []:=rfl
     rw [zv hc] at hib
     simp only [hsv,hsg] at hK'
     have e4:(c :: r != []) = true:=rfl
     (have zx:=za hib e4);refine zgo ?_;repeat' first|exact zt|apply zan|intro hc
     all_goals exact hK' _ () (Qp []) trivial (zwg [])
  ·have hcase:(Yn w).1 = 0∨(Yn w).1 = 45∨(Yn w).1 = 33∨(Yn w).1 = 43:=by
    cases w with
    | nil=>exact .inl rfl
    | cons c r =>
      rw [Kt];split
      ·rename_i h;exact .inr h
      ·exact .inl rfl
   generalize Yn w = sv at *
   obtain ⟨sg,v⟩:=sv
   simp only at hs hsl hnd hlen hcase ⊢
   generalize vM v = S at *
   obtain ⟨m,ok⟩:=S
   simp only at hs hsl hnd ⊢
   rcases ok with _|_
   ·simp only [zk,if_false]
    refine zgo ?_;repeat' first|exact zt|apply zan|intro hc
    all_goals first
     | (refine UC _ _ _ _ _ rfl (by simp only [go_sem]) rfl rfl rfl (by decide) (by decide) (by decide) ⟨_,rfl⟩ ⟨_,rfl⟩ ?_ ?_ ?_ ?_<;>first|rfl|(simp;done))
   ·simp only [if_true]
    repeat' (first|(refine zsk ?_;intro K' hK)|(refine zrg ?_;intro K' hK)|refine zsp ?_|(refine zsc ?_ ?_<;>intro hc<;>first|exact znh|try simp only [znz] at hc)|simp (maxSteps:=1000000) only [go_sem,Yo]|(refine hK _ ?_;clear hK K')|apply zan|((first|apply jG|apply V1);(focus first|exact (z0 _ zsd)))|((first|apply QC|apply Qr);(focus first|exact hs|exact (z1 _ _).b|exact (z2 _ zsd).b|exact (z3 _ _ zsd).b|exact (z4 _ _ zsd).b))|exact zsq|fail)
    refine Qz (ι:=Nat) (fun j=>j≤l.length) (fun j=>Yo [(0,.ptr 0 0),(5,V.str (sgn sg)),(6,.ptr 5 0),(8,.clo (.n 220) [.ptr 5 0]),(9,.hd 6 0 ((l.take j).filter fun x=>m.contains x).length),(10,.hd 7 0 (Qg (l.take j) m).length),(48,.hd 3 0 (l.map V.int).length),(49,V.int (l.map V.int).length),(50,V.int j)] [(0,.box true [.hd 3 0 (l.map V.int).length,.hd 4 0 (k.map V.int).length]),(1,.dead),(2,.dead),(3,.buf true 1 (l.map V.int)),(4,.buf true 1 (k.map V.int)),(5,.box true [.sl 1 (m.map V.int)]),(6,.buf true 1 (((l.take j).filter fun x=>m.contains x).map V.int)),(7,.buf true 1 ((Qg (l.take j) m).map V.int))] 8) (fun j=>l.length - j) 0 (by omega) (Qp [(5,5005),(6,12005),(7,13005)]) (zwg [(5,5005),(6,12005),(7,13005)]) fun j hj K' hL=>?_
    rcases hd:l.drop j with _|⟨x,r⟩
    ·have hjl:=Qj hd
     have hj0:j = l.length:=by omega
     subst hj0
     have e1:decide ((l.length:Int) < (((l.map V.int).length:Nat):Int)) = false:=by simp
     have hw1:=Jy l m
     have hw2:(l.filter fun x=>m.contains x).length≤l.length:=kq _ _
     have hcat:Qg l m++(l.filter fun x=>m.contains x) = Qg l m++Qg l (Qg l m):=by
      congr 1
      unfold Qg
      refine List.filter_congr fun x hx=>?_
      cases hm:m.contains x<;>simp_all
     rw [zP]
     generalize hmv:(l.filter fun x=>m.contains x) = mv at *
     rcases hcase with rfl|rfl|rfl|rfl
     ·have hd0:doG 0 m (l,k) = (l++Qg (Qg m l) k,k):=rfl
      have hs0:sgn 0 = []:=rfl
      rw [hd0,hs0]
      repeat' (first|(refine zsk ?_;intro K' hK)|(refine zrg ?_;intro K' hK)|refine zsp ?_|(refine zsc ?_ ?_<;>intro hc<;>first|exact znh|try simp only [znz] at hc)|simp (maxSteps:=1000000) only [go_sem,Yo,e1]|(refine hK _ ?_;clear hK K')|apply zan|((first|apply jG|apply V1);(focus first|exact (z0 _ zsd)))|((first|apply QC|apply Qr);(focus first|exact (z1 _ _).b|exact (z2 _ zsd).b|exact (z3 _ _ zsd).b|exact (z4 _ _ zsd).b))|exact zsq|fail)
      refine Qz (ι:=Nat) (fun i=>i≤m.length) (fun i=>Yo [(0,.ptr 0 0),(67,.sl 1 (m.map V.int)),(68,V.int (m.map V.int).length),(69,V.int i)] [(0,.box true [.hd 3 0 (l++Qg (Qg (m.take i) l) k).length,.hd 4 0 (k.map V.int).length]),(1,.dead),(2,.dead),(3,.buf true 1 ((l++Qg (Qg (m.take i) l) k).map V.int)),(4,.buf true 1 (k.map V.int))] 5) (fun i=>m.length - i) 0 (by omega) (Qp []) (JS [] zwa (by simp only [go_sem,zwl];simp only [List.take_zero,Qg,List.filter_nil,zY,zh];(repeat' (first|rfl|apply za|omega|exact fun h=>h|exact Exists.intro _ rfl))) (by simp [Qp]) (by simp) (by omega)) fun i hi K' hL=>?_
      rcases hdi:m.drop i with _|⟨c,r⟩
      ·have hil:=Qj hdi
       have e2:decide ((i:Int) < (((m.map V.int).length:Nat):Int)) = false:=by simp;omega
       have e3:m.take i = m:=zb hil
       rw [e3]
       repeat' (first|(refine zsk ?_;intro K' hK)|(refine zrg ?_;intro K' hK)|refine zsp ?_|(refine zsc ?_ ?_<;>intro hc<;>first|exact znh|try simp only [znz] at hc)|simp (maxSteps:=1000000) only [go_sem,Yo,e2]|(refine hK _ ?_;clear hK K')|apply zan|((first|apply jG|apply V1);(focus first|exact (z0 _ zsd)))|((first|apply QC|apply Qr);(focus first|exact (z1 _ _).b|exact (z2 _ zsd).b|exact (z3 _ _ zsd).b|exact (z4 _ _ zsd).b))|exact zsq|fail)
       all_goals first
        | (refine UC _ _ _ _ _ rfl (by simp only [go_sem]) rfl rfl rfl (by decide) (by decide) (by decide) ⟨_,rfl⟩ ⟨_,rfl⟩ ?_ ?_ ?_ ?_<;>first|rfl|(simp;done))
      ·obtain ⟨hi',hgi,hri⟩:=Qe hdi
       have hwi:=Qd (k:=i) (by omega)
       have e2:decide ((i:Int) < (((m.map V.int).length:Nat):Int)) = true:=by simp;omega
       have ha:=jK (m:=l) hgi
       have hnc:c ∉ m.take i:=by
        intro h
        have h2:m.take i++c :: r = m:=by rw [← hdi,zR]
        rw [← h2] at hnd
        exact (kp.1 hnd).2.2 c h c (by simp) rfl
       have hal:(Qg (Qg (m.take i) l) k).length≤16:=by
        have q1:=Jy (Qg (m.take i) l) k
        have q2:=Jy (m.take i) l
        rw [zM] at q2;omega
       have hin:c∈l++Qg (Qg (m.take i) l) k↔c∈l:=by
        rw [zX]
        exact ⟨fun h=>h.elim id fun h=>absurd (JT.1 (JT.1 h).1).1 hnc,Or.inl⟩
       have hf1:=Kz c (l++Qg (Qg (m.take i) l) k) 0
       have hf2:=Kz c k 0
       have hc1:=(z4 (l++Qg (Qg (m.take i) l) k) c (by rw [zF];omega)).b
       have hc2:=(z4 k c (by omega)).b
       by_cases hcl:c∈l
       ·rw [zu (hf1.2 (hin.2 hcl))] at hc1
        rw [if_pos (by simpa using hcl),zY] at ha
        rw [← ha] at hc1 ⊢
        repeat' (first|(refine zsk ?_;intro K' hK)|(refine zrg ?_;intro K' hK)|refine zsp ?_|(refine zsc ?_ ?_<;>intro hc<;>first|exact znh|try simp only [znz] at hc)|simp (maxSteps:=1000000) only [go_sem,Yo,e2,hwi,Int.toNat_natCast,zq,hgi,zP,ae7]|(refine hK _ ?_;clear hK K')|apply zan|((first|apply jG|apply V1);(focus first|exact (z0 _ zsd)))|((first|apply QC|apply Qr);(focus first|exact hc1|exact (z1 _ _).b|exact (z2 _ zsd).b|exact (z3 _ _ zsd).b|exact (z4 _ _ zsd).b))|exact zsq|fail)
        all_goals first
         | exact hL _ (i + 1) (Qp []) (by omega) (by omega) (zwg [])
       ·rw [zv (fun h=>hcl (hin.1 (hf1.1 h)))] at hc1
        rw [if_neg (by simpa using hcl)] at ha
        by_cases hck:c∈k
        ·have hb:Qg (Qg (m.take (i + 1)) l) k = Qg (Qg (m.take i) l) k:=by
          rw [ha,Qg,kJ];simp [hck,Qg]
         rw [zu (hf2.2 hck)] at hc2
         rw [← hb] at hc1 ⊢
         repeat' (first|(refine zsk ?_;intro K' hK)|(refine zrg ?_;intro K' hK)|refine zsp ?_|(refine zsc ?_ ?_<;>intro hc<;>first|exact znh|try simp only [znz] at hc)|simp (maxSteps:=1000000) only [go_sem,Yo,e2,hwi,Int.toNat_natCast,zq,hgi,zP,ae7]|(refine hK _ ?_;clear hK K')|apply zan|((first|apply jG|apply V1);(focus first|exact (z0 _ zsd)))|((first|apply QC|apply Qr);(focus first|exact hc1|exact hc2|exact (z1 _ _).b|exact (z2 _ zsd).b|exact (z3 _ _ zsd).b|exact (z4 _ _ zsd).b))|exact zsq|fail)
         all_goals first
          | exact hL _ (i + 1) (Qp []) (by omega) (by omega) (zwg [])
        ·have hb:l++Qg (Qg (m.take (i + 1)) l) k = (l++Qg (Qg (m.take i) l) k)++[c]:=by
          rw [ha,Qg,kJ];simp [hck,Qg]
         rw [zv (fun h=>hck (hf2.1 h))] at hc2
         have hacc:(l++Qg (Qg (m.take i) l) k).length≤32:=by rw [zF];omega
         generalize l++Qg (Qg (m.take i) l) k = acc at *
         have hb2:List.take acc.length (List.map V.int acc)++[V.int c] = (acc++[c]).map V.int:=by
          rw [zb (by simp),zG];rfl
         have hln:acc.length + 1 = (acc++[c]).length:=by simp
         repeat' (first|(refine zsk ?_;intro K' hK)|(refine zrg ?_;intro K' hK)|refine zsp ?_|(refine zsc ?_ ?_<;>intro hc<;>first|exact znh|try simp only [znz] at hc)|simp (maxSteps:=1000000) only [go_sem,Yo,e2,hwi,Int.toNat_natCast,zq,hgi,zP,ae7]|(refine hK _ ?_;clear hK K')|apply zan|((first|apply jG|apply V1);(focus first|exact (z0 _ zsd)))|((first|apply QC|apply Qr);(focus first|exact hc1|exact hc2|exact (z1 _ _).b|exact (z2 _ zsd).b|exact (z3 _ _ zsd).b|exact (z4 _ _ zsd).b))|exact zsq|fail)
         all_goals first
          | (have hb3:List.map V.int acc++[V.sc (Value.int .i64 c)] = (acc++[c]).map V.int:=by simp
             rw [hb3,hln]
             refine hL _ (i + 1) (Qp [(3,27005)]) (by omega) (by omega) ?_
             rw [hb]
             exact zwg [(3,27005)])
          | (simp only [zF] at *;omega)
     ·have hd0:doG 45 m (l,k) = (Qg l m,k):=rfl
      have hs0:sgn 45 = [45]:=rfl
      rw [hd0,hs0]
      repeat' (first|(refine zsk ?_;intro K' hK)|(refine zrg ?_;intro K' hK)|refine zsp ?_|(refine zsc ?_ ?_<;>intro hc<;>first|exact znh|try simp only [znz] at hc)|simp (maxSteps:=1000000) only [go_sem,Yo,e1]|(refine hK _ ?_;clear hK K')|apply zan|((first|apply jG|apply V1);(focus first|exact (z0 _ zsd)))|((first|apply QC|apply Qr);(focus first|exact (z1 _ _).b|exact (z2 _ zsd).b|exact (z3 _ _ zsd).b|exact (z4 _ _ zsd).b))|exact zsq|fail)
      all_goals first
       | (refine UC _ _ _ _ _ rfl (by simp only [go_sem]) rfl rfl rfl (by decide) (by decide) (by decide) ⟨_,rfl⟩ ⟨_,rfl⟩ ?_ ?_ ?_ ?_<;>first|rfl|(simp;done))
     ·have hd0:doG 33 m (l,k) = (Qg l m,k++m):=rfl
      have hs0:sgn 33 = [33]:=rfl
      rw [hd0,hs0]
      repeat' (first|(refine zsk ?_;intro K' hK)|(refine zrg ?_;intro K' hK)|refine zsp ?_|(refine zsc ?_ ?_<;>intro hc<;>first|exact znh|try simp only [znz] at hc)|simp (maxSteps:=1000000) only [go_sem,Yo,e1,zP]|(refine hK _ ?_;clear hK K')|apply zan|((first|apply jG|apply V1);(focus first|exact (z0 _ zsd)))|((first|apply QC|apply Qr);(focus first|exact (z1 _ _).b|exact (z2 _ zsd).b|exact (z3 _ _ zsd).b|exact (z4 _ _ zsd).b))|exact zsq|fail)
      all_goals first
       | (refine UC _ _ _ _ _ rfl (by simp only [go_sem]) rfl rfl rfl (by decide) (by decide) (by decide) ⟨_,rfl⟩ ⟨_,rfl⟩ ?_ ?_ ?_ ?_<;>first|rfl|(simp;done))
     ·have hd0:doG 43 m (l,k) = (Qg l m++Qg l (Qg l m),k):=rfl
      have hs0:sgn 43 = [43]:=rfl
      rw [hd0,hs0,← hcat]
      repeat' (first|(refine zsk ?_;intro K' hK)|(refine zrg ?_;intro K' hK)|refine zsp ?_|(refine zsc ?_ ?_<;>intro hc<;>first|exact znh|try simp only [znz] at hc)|simp (maxSteps:=1000000) only [go_sem,Yo,e1,ae7]|(refine hK _ ?_;clear hK K')|apply zan|((first|apply jG|apply V1);(focus first|exact (z0 _ zsd)))|((first|apply QC|apply Qr);(focus first|exact (z1 _ _).b|exact (z2 _ zsd).b|exact (z3 _ _ zsd).b|exact (z4 _ _ zsd).b))|exact zsq|fail)
      all_goals first
       | (refine UC _ _ _ _ _ rfl (by simp only [go_sem]) rfl rfl rfl (by decide) (by decide) (by decide) ⟨_,rfl⟩ ⟨_,rfl⟩ ?_ ?_ ?_ ?_<;>first|rfl|(simp;done))
    ·obtain ⟨hj',hget,hr'⟩:=Qe hd
     have hwj:=Qd (k:=j) (by omega)
     have e1:decide ((j:Int) < (((l.map V.int).length:Nat):Int)) = true:=by simp;omega
     have h1:=jK (m:=m) hget
     have h2:=abW (p:=fun x=>m.contains x) hget
     have hl1:(Qg (l.take j) m).length≤16:=by have:=Jy (l.take j) m;rw [zM] at this;omega
     have hl2:((l.take j).filter fun x=>m.contains x).length≤16:=by have:=kq (fun x=>m.contains x) (l.take j);rw [zM] at this;omega
     have hcl:=(z3 x m (by omega)).b
     generalize Qg (l.take j) m = rs at *
     generalize (l.take j).filter (fun x=>m.contains x) = mv at *
     rcases hx:m.contains x with _|_
     ·rw [hx] at h1 h2 hcl
      simp only [zk,if_false,zY] at h1 h2
      have hb:List.take rs.length (List.map V.int rs)++[V.int x] = (rs++[x]).map V.int:=by
       rw [zb (by simp),zG];rfl
      have hln:rs.length + 1 = (rs++[x]).length:=by simp
      repeat' (first|(refine zsk ?_;intro K' hK)|(refine zrg ?_;intro K' hK)|refine zsp ?_|(refine zsc ?_ ?_<;>intro hc<;>first|exact znh|try simp only [znz] at hc)|simp (maxSteps:=1000000) only [go_sem,Yo,e1,hwj,Int.toNat_natCast,zq,hget]|(refine hK _ ?_;clear hK K')|apply zan|((first|apply jG|apply V1);(focus first|exact (z0 _ zsd)))|((first|apply QC|apply Qr);(focus first|exact hcl|exact (z1 _ _).b|exact (z2 _ zsd).b|exact (z3 _ _ zsd).b|exact (z4 _ _ zsd).b))|exact zsq|fail)
      rw [hb,hln]
      refine hL _ (j + 1) (Qp [(7,10008)]) (by omega) (by omega) ?_
      rw [h1,h2]
      exact zwg [(7,10008)]
     ·rw [hx] at h1 h2 hcl
      simp only [if_true,zY] at h1 h2
      have hb:List.take mv.length (List.map V.int mv)++[V.int x] = (mv++[x]).map V.int:=by
       rw [zb (by simp),zG];rfl
      have hln:mv.length + 1 = (mv++[x]).length:=by simp
      repeat' (first|(refine zsk ?_;intro K' hK)|(refine zrg ?_;intro K' hK)|refine zsp ?_|(refine zsc ?_ ?_<;>intro hc<;>first|exact znh|try simp only [znz] at hc)|simp (maxSteps:=1000000) only [go_sem,Yo,e1,hwj,Int.toNat_natCast,zq,hget]|(refine hK _ ?_;clear hK K')|apply zan|((first|apply jG|apply V1);(focus first|exact (z0 _ zsd)))|((first|apply QC|apply Qr);(focus first|exact hcl|exact (z1 _ _).b|exact (z2 _ zsd).b|exact (z3 _ _ zsd).b|exact (z4 _ _ zsd).b))|exact zsq|fail)
      rw [hb,hln]
      refine hL _ (j + 1) (Qp [(6,10008)]) (by omega) (by omega) ?_
      rw [h1,h2]
      exact zwg [(6,10008)]
def XV:=qd Proofs.Tryz.f151 []
def Vy (Γ:Env) (f:Nat):Prop:=∀ (s:List UInt8) (hs:s.length < 2 ^ 30),EvC Γ f [V.str s] (VQ (XE s))
attribute [local go_sem] Yo in
theorem v7 {Γ:Env} {f:Nat} (h:Has Γ.P f 39 XV.1.1.ac XV.1.2) (z0:y9 Γ 185) (z1:UO Γ 148) (z2:Xh Γ 186):Vy Γ f:=by
 intro s hs
 refine Qn h zsi (vR _) fun C hC hm=>?_
 subst hC
 simp only [XV,qd,DC.ac]
 have hct:=(z0 s 58 (by omega)).b
 have hsp:=(z1 s 58 (by omega)).b
 have hpos:1≤(QU 58 s).length:=by
  have:QU 58 s≠[]:=agE _ _ _
  rcases h:QU 58 s with _|⟨a,b⟩
  ·exact absurd h this
  ·simp
 by_cases h1:s.length > 8192
 ·have e1:decide ((s.length:Int) > 8192) = true:=by simp;omega
  have e2:XE s = ([],0,3):=by rw [XE,if_pos h1]
  rw [e2,VQ]
  (have zx:=e1);refine zgo ?_;repeat' first|exact zt|apply zan|intro hc
  all_goals (refine Qf _ rfl ?_;simp only [go_sem];first|done|rfl|exact ⟨_,_,rfl⟩|trace_state)
 ·have e1:decide ((s.length:Int) > 8192) = false:=by simp;omega
  by_cases h2:s = []
  ·subst h2
   have e2:XE [] = ([],0,0):=rfl
   have e4:decide (((((QU 58 []).length - 1:Nat)):Int)≥200) = false:=rfl
   rw [e2,VQ]
   (have zx:=za e1 e4);refine zgo ?_;repeat' first|exact zt|apply zan|intro hc
   all_goals (refine Qf _ rfl ?_;simp only [go_sem];first|done|rfl|exact ⟨_,_,rfl⟩|trace_state)
  ·have e3:(s == []) = false:=by simpa using h2
   have hmem:∀ w∈QU 58 s,w.length < 2 ^ 30:=fun w hw=>by have:=aev hw;omega
   have hlen:=wg 58 s
   by_cases h3:(QU 58 s).length > 200
   ·have e2:XE s = ([],0,3):=by rw [XE,if_neg h1,if_neg h2,if_pos h3]
    have e4:decide (((((QU 58 s).length - 1:Nat)):Int)≥200) = true:=by simp;omega
    rw [e2,VQ]
    (have zx:=za e1 (za e3 e4));refine zgo ?_;repeat' first|exact zt|apply zan|intro hc
    all_goals (refine Qf _ rfl ?_;simp only [go_sem];first|done|rfl|exact ⟨_,_,rfl⟩|trace_state)
   ·have e2:XE s = goP (QU 58 s) 0 ([],[]):=by rw [XE,if_neg h1,if_neg h2,if_neg h3]
    have e4:decide (((((QU 58 s).length - 1:Nat)):Int)≥200) = false:=by simp;omega
    rw [e2,VQ]
    generalize QU 58 s = ws at *
    (have zx:=za e1 (za e3 e4));refine zgo ?_;repeat' first|exact zt|apply zan|intro hc
    refine UE 14000 0 1 rfl rfl ?_
    refine UE 14000 1 1 rfl rfl ?_
    refine Qz (ι:=Nat×alj) (fun q=>q.1≤ws.length∧ahR q.2∧q.2.2.length≤16 * q.1∧goP (ws.drop q.1) q.1 q.2 = goP ws 0 ([],[]))
     (fun q=>Yo [(5,.ptr 0 0),(21,.sl 1 (ws.map V.str)),(22,V.int (ws.map V.str).length),(23,V.int q.1)] [(0,.box true [.hd 1 0 (q.2.1.map V.int).length,.hd 2 0 (q.2.2.map V.int).length]),(1,.buf true 1 (q.2.1.map V.int)),(2,.buf true 1 (q.2.2.map V.int))] 3)
     (fun q=>ws.length - q.1) (0,[],[]) ⟨by simp,alS,by simp,by simp⟩ (Qp [(0,14000),(1,20000),(2,20001)]) (JS [(0,14000),(1,20000),(2,20001)] zwa (by simp only [List.set_cons_zero,List.set_cons_succ,Nat.reduceAdd];simp only [go_sem,zwl];(repeat' (first|rfl|apply za|omega|exact fun h=>h|exact Exists.intro _ rfl))) (by simp [Qp]) (by simp;omega) (by omega)) fun q hq K' hL=>?_
    obtain ⟨k,l,m⟩:=q
    obtain ⟨q1,q2,q3,hinv⟩:=hq
    simp only at q1 q2 q3 hinv
    simp only
    rcases hd:ws.drop k with _|⟨w,r⟩
    ·have hk:=Qj hd
     rw [hd,goP] at hinv
     rw [← hinv]
     have e5:decide ((k:Int) < (((ws.map V.str).length:Nat):Int)) = false:=by simp;omega
     simp only [VQ]
     (have zx:=e5);refine zgo ?_;repeat' first|exact zt|apply zan|intro hc
     all_goals (refine Qf _ rfl ?_;simp only [go_sem];rw [zb (by simp)])
    ·obtain ⟨hk',hget,hr⟩:=Qe hd
     have hwm:=hmem w (zj hget)
     have hw:=Qd (k:=k) (by omega)
     have e5:decide ((k:Int) < (((ws.map V.str).length:Nat):Int)) = true:=by simp;omega
     rw [hd,goP] at hinv
     have hdo:=z2 w l m hwm q2 (by omega)
     have hdl:=amS w (l,m)
     have hdo2:=apl w (l,m) q2
     rcases ho:wordOk w with _|_
     ·rw [ho] at hinv hdo
      simp only [zk,if_false] at hinv hdo
      rw [← hinv]
      simp only [VQ]
      (have zx:=za e5 (za hw hget));refine zgo ?_;repeat' first|exact zt|apply zan|intro hc
      all_goals (refine Qf _ rfl ?_;simp only [go_sem];first|done|rfl|exact ⟨_,_,rfl⟩|trace_state)
     ·rw [ho] at hinv hdo
      simp only [if_true] at hinv hdo
      generalize doR w (l,m) = p at *
      obtain ⟨l2,m2⟩:=p
      simp only at hdo hdl hinv
      (have zx:=za e5 (za hw hget));refine zgo ?_;repeat' first|exact zt|apply zan|intro hc
      refine hL _ (k + 1,l2,m2) (Qp [(1,8003),(2,8004)]) ⟨by simp only;omega,hdo2,by simp only;omega,by simp only;rw [hr];exact hinv⟩ (by simp only;omega) (zwg [(1,8003),(2,8004)])
end Av
end
