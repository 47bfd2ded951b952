/- K18 -/
import Derived.Test.YtphclkkggijicaaGreatDoorK17
import Derived.Test.YtphclkkggijicaaGreatDoorK12
set_option linter.unusedVariables false
set_option linter.unusedSimpArgs false
noncomputable section
set_option maxRecDepth 10000
set_option maxHeartbeats 4000000
namespace Av
open Go
attribute [local irreducible] AWp Vo Ky jA awS awC aad awQ aaN QL Vq vQ awR Vz awB okR js ris
def Vr (r:List Int×Int×Int):V:=.tup [.sl 1 (r.1.map V.int),V.int r.2.1,V.int r.2.2]
theorem vj (r:List Int×Int×Int):(Vr r).closed:=by simp only [Vr,V.closed,Qa,and_self]
theorem aag (c:UInt8):∀ (r cur w:List UInt8),w∈J0 c cur r→w.length≤cur.length + r.length
 | [],cur,w,h=>by simp only [J0,zQ] at h;subst h;simp
 | x :: r,cur,w,h=>by
   rw [J0] at h
   split at h
   ·rcases zn.1 h with rfl|h
    ·simp
    ·have:=aag c r [] w h;simp at this ⊢;omega
   ·have:=aag c r _ w h;simp at this ⊢;omega
theorem ad1 {c:UInt8} {s w:List UInt8} (h:w∈QK c s):w.length≤s.length:=by simpa using aag c s [] w h
def UO:=qd Proofs.Tryz.f112 []
def V4 (Γ:Env) (f:Nat):Prop:=∀ (s:List UInt8) (hs:s.length < 2 ^ 30),EvC Γ f [V.str s] (Vr (Xm s))
attribute [local go_sem] Yd in
theorem adt {Γ:Env} {f:Nat} (h:Has Γ.P f 39 UO.1.1.ac UO.1.2) (z0:V3 Γ 155) (z1:Uu Γ 156):V4 Γ f:=by
 intro s hs
 refine Qn h zsi (vj _) fun C hC hm=>?_
 subst hC
 simp only [UO,qd,DC.ac]
 by_cases h1:s.length > 8192
 ·have e1:decide ((s.length:Int) > 8192) = true:=by simp;omega
  have e2:Xm s = ([],0,3):=by rw [Xm,if_pos h1]
  rw [e2,Vr]
  (have zx:=e1);refine zgo ?_;repeat' first|exact zt|apply zan|intro hc
  all_goals (refine Qd _ rfl ?_;simp only [go_sem];first|done|rfl|exact ⟨_,_,rfl⟩|trace_state)
 ·have e1:decide ((s.length:Int) > 8192) = false:=by simp;omega
  by_cases h2:s = []
  ·subst h2
   have e2:Xm [] = ([],0,0):=rfl
   rw [e2,Vr]
   (have zx:=e1);refine zgo ?_;repeat' first|exact zt|apply zan|intro hc
   all_goals (refine Qd _ rfl ?_;simp only [go_sem];first|done|rfl|exact ⟨_,_,rfl⟩|trace_state)
  ·have e3:(s == []) = false:=by simpa using h2
   have hsp:=(z0 s 58 (by omega)).b
   have hlen:=xE 58 s
   have hmem:∀ w∈QK 58 s,w.length < 2 ^ 30:=fun w hw=>by have:=ad1 hw;omega
   have e58:(((58:UInt8).toNat:Nat):Int) = 58:=rfl
   rw [e58] at hsp
   by_cases h3:(QK 58 s).length > 200
   ·have e2:Xm s = ([],0,3):=by rw [Xm,if_neg h1,if_neg h2,if_pos h3]
    have e4:decide ((((QK 58 s).map V.str).length:Int) > 200) = true:=by simp;omega
    rw [e2,Vr]
    (have zx:=za e1 (za e3 e4));refine zgo ?_;repeat' first|exact zt|apply zan|intro hc
    all_goals (refine Qd _ rfl ?_;simp only [go_sem];first|done|rfl|exact ⟨_,_,rfl⟩|trace_state)
   ·have e2:Xm s = goP (QK 58 s) 0 ([],[]):=by rw [Xm,if_neg h1,if_neg h2,if_neg h3]
    have e4:decide ((((QK 58 s).map V.str).length:Int) > 200) = false:=by simp;omega
    rw [e2]
    generalize QK 58 s = ws at *
    (have zx:=za e1 (za e3 e4));refine zgo ?_;repeat' first|exact zt|apply zan|intro hc
    refine Ug 15000 0 1 rfl rfl ?_
    refine Ug 15000 1 1 rfl rfl ?_
    refine QA (ι:=Nat×akJ) (fun q=>q.1≤ws.length∧q.2.1.length≤16 * q.1∧q.2.2.length≤16 * q.1∧goP (ws.drop q.1) q.1 q.2 = goP ws 0 ([],[]))
     (fun q=>Yd [(5,.sl 1 (ws.map V.str)),(6,.ptr 0 0),(7,V.int q.1)] [(0,.box true [.hd 1 0 (q.2.1.map V.int).length,.hd 2 0 (q.2.2.map V.int).length]),(1,.buf true 1 (q.2.1.map V.int)),(2,.buf true 1 (q.2.2.map V.int))] 3)
     (fun q=>ws.length - q.1) (0,[],[]) ⟨by simp,by simp,by simp,by simp⟩ (Qo [(0,15000),(1,18000),(2,18001)]) (JZ [(0,15000),(1,18000),(2,18001)] zwa (by simp only [List.set_cons_zero,List.set_cons_succ,Nat.reduceAdd];simp only [go_sem,zwl];(repeat' (first|rfl|apply za|omega|exact fun h=>h|exact Exists.intro _ rfl))) (by simp [Qo]) (by simp;omega) (by omega)) fun q hq K' hL=>?_
    obtain ⟨k,l,m⟩:=q
    obtain ⟨q1,q2,q3,hinv⟩:=hq
    simp only at q1 q2 q3 hinv
    simp only
    rcases hd:ws.drop k with _|⟨w,r⟩
    ·have hk:=Qj hd
     rw [hd,goP] at hinv
     rw [← hinv]
     have e5:decide ((k:Int) < (((ws.map V.str).length:Nat):Int)) = false:=by simp;omega
     simp only [Vr]
     (have zx:=e5);refine zgo ?_;repeat' first|exact zt|apply zan|intro hc
     all_goals (refine Qd _ rfl ?_;simp only [go_sem];rw [zb (by simp)])
    ·obtain ⟨hk',hget,hr⟩:=Qf hd
     have hwm:=hmem w (zk hget)
     have hw:=Qc (k:=k) (by omega)
     have e5:decide ((k:Int) < (((ws.map V.str).length:Nat):Int)) = true:=by simp;omega
     rw [hd,goP] at hinv
     have hdo:=z1 w l m hwm (by omega) (by omega)
     have hdl:=ami w (l,m)
     rcases ho:wordOk w with _|_
     ·rw [ho] at hinv hdo
      simp only [zj,if_false] at hinv hdo
      rw [← hinv]
      simp only [Vr]
      (have zx:=za e5 (za hw hget));refine zgo ?_;repeat' first|exact zt|apply zan|intro hc
      all_goals (refine Qd _ rfl ?_;simp only [go_sem];first|done|rfl|exact ⟨_,_,rfl⟩|trace_state)
     ·rw [ho] at hinv hdo
      simp only [if_true] at hinv hdo
      generalize doR w (l,m) = p at *
      obtain ⟨l2,m2⟩:=p
      simp only at hdo hdl hinv
      (have zx:=za e5 (za hw hget));refine zgo ?_;repeat' first|exact zt|apply zan|intro hc
      refine hL _ (k + 1,l2,m2) (Qo [(1,9003),(2,9004)]) ⟨by simp only;omega,by simp only;omega,by simp only;omega,by simp only;rw [hr];exact hinv⟩ (by simp only;omega) (zwg [(1,9003),(2,9004)])
def Ur (Γ:Env) (f:Nat):Prop:=∀ (s:List UInt8) (c:UInt8) (hs:s.length < 4294967281),EvC Γ f [V.str s,V.str [c]] (.sl 1 ((QK c s).map V.str))
def yM (Γ:Env) (f:Nat):Prop:=∀ (s:List UInt8) (c:UInt8) (hs:s.length < 4294967281),EvN Γ f [V.str s,V.str [c]] (V.int ((((QK c s).length - 1:Nat)):Int))
def X1 (Γ:Env) (f:Nat):Prop:=∀ (s:List UInt8) (c:UInt8),EvN Γ f [V.str s,.sc (.int .u8 c.toNat)] (V.int (Lib.indexByte s c))
def WM:=qd Proofs.Tryz.f93 []
def Wp (Γ:Env) (f:Nat):Prop:=∀ (s:List UInt8) (hs:s.length < 2 ^ 30),EvC Γ f [V.str s] (.tup [.sl 1 ((vc s).1.map V.int),V.bool (vc s).2])
attribute [local go_sem] Qm.cells Qm.v Yd in
theorem abx {Γ:Env} {f:Nat} (h:Has Γ.P f 46 WM.1.1.ac WM.1.2) (z0:YI Γ 147) (z1:Ur Γ 148) (z2:W7 Γ 149):Wp Γ f:=by
 intro s hs
 refine Qn h zsi (by simp only [V.closed,Qa,and_self]) fun C hC hm=>?_
 subst hC
 simp only [WM,qd,DC.ac]
 have hlen:=xE 43 s
 have hsp:=(z1 s 43 (by omega)).b
 have hset:vc s = if (QK 43 s).all Xn then (YM (QK 43 s) Qq,true) else ([],false):=rfl
 rw [hset]
 generalize QK 43 s = L at *
 refine zgo ?_;repeat' first|exact zt|apply zan|intro hc
 refine QA (ι:=Nat) (fun k=>k≤16∧(0 < k→L.all Xn = true)) (fun k=>Yd [(0,V.str s),(4,.hd 0 0 (YM L (Qq.take k)).length),(12,.sl 12 (Qq.map Qm.v)),(13,V.int 16),(14,V.int k)] [(0,.buf true 1 ((YM L (Qq.take k)).map V.int))] 1) (fun k=>17 - k) 0 ⟨by omega,fun h=>absurd h (by omega)⟩ (Qo [(0,2000)]) (zwg [(0,2000)]) fun k hk K' hL=>?_
 obtain ⟨hk,hkn⟩:=hk
 rcases hd:Qq.drop k with _|⟨x,r⟩
 ·have hk16:=Qj hd
  rw [YA] at hk16
  have hk16:k = 16:=by omega
  subst hk16
  have e3:Qq.take 16 = Qq:=zb (by rw [YA];omega)
  have hall:=hkn (by omega)
  rw [e3,hall]
  refine zgo ?_;repeat' first|exact zt|apply zan|intro hc
  all_goals (refine Qd _ rfl ?_;simp only [go_sem];rw [zb (by simp)])
 ·obtain ⟨hk',hget,hr⟩:=Qf hd
  rw [YA] at hk'
  have hx:=zk hget
  have hw:=Qc (k:=k) (by omega)
  have e1:decide ((k:Int) < 16) = true:=by simp;omega
  have hcs:=abb L k x hget
  have hol:(YM L (Qq.take k)).length≤16:=by
   rw [YM,zh]
   refine kB (kp _ _) ?_
   rw [zJ];omega
  generalize YM L (Qq.take k) = out at *
  (have zx:=za e1 hget);refine zgo ?_;repeat' first|exact zt|apply zan|intro hc
  refine Qp (ι:=Nat) (fun j=>j≤L.length∧(L.take j).all Xn = true) (fun j=>[(7,V.bool ((L.take j).all fun n=>Yr n x)),(21,V.int j)]) (fun j=>L.length - j) 0 (by omega) ⟨by omega,by simp⟩ zol zlt (by simp only [Nat.reduceAdd,ovT,Je,Nat.reduceEqDiff,reduceIte,Xv,Vx,aiQ,u32,u33,u34,u35,u36,u37,u38,u39,and_self,and_true,true_and];exact ⟨rfl,rfl⟩) fun j hj K'' hL2=>?_
  obtain ⟨hj,hjk⟩:=hj
  simp only [ovT,Je,Nat.reduceEqDiff,reduceIte]
  rcases hdj:L.drop j with _|⟨y,r2⟩
  ·have hjl:=Qj hdj
   have e2:decide ((j:Int) < (((L.map V.str).length:Nat):Int)) = false:=by simp;omega
   have e3:L.take j = L:=zb hjl
   rw [e3] at hjk ⊢
   rcases hin:al4 L x with _|_
   ·have hin2:(L.all fun n=>Yr n x) = false:=hin
    rw [hin2]
    rw [hin] at hcs
    (have zx:=za e2 hw);refine zgo ?_;repeat' first|exact zt|apply zan|intro hc
    simp only [zj,if_false,zU] at hcs
    refine hL _ (k + 1) (Qo []) ⟨by omega,fun _=>hjk⟩ (by omega) ?_
    rw [hcs]
    exact zwg []
   ·have hin2:(L.all fun n=>Yr n x) = true:=hin
    rw [hin2]
    rw [hin] at hcs
    (have zx:=za e2 hw);refine zgo ?_;repeat' first|exact zt|apply zan|intro hc
    rw [if_pos rfl] at hcs
    have hb:List.take out.length (List.map V.int out)++[V.int x.code] = (out++[x.code]).map V.int:=by
     rw [zb (by simp),zD];rfl
    have hln:out.length + 1 = (out++[x.code]).length:=by simp
    rw [hb,hln]
    refine hL _ (k + 1) (Qo [(0,16001)]) ⟨by omega,fun _=>hjk⟩ (by omega) ?_
    rw [hcs]
    exact zwg [(0,16001)]
  ·obtain ⟨hj',hgj,hrj⟩:=Qf hdj
   have hwj:=Qc (k:=j) (by omega)
   have e2:decide ((j:Int) < (((L.map V.str).length:Nat):Int)) = true:=by simp;omega
   have hall:((L.take (j + 1)).all fun n=>Yr n x) = (((L.take j).all fun n=>Yr n x) && Yr y x):=by
    rw [zy,hgj];simp
   have hnm:=(z2 x y).b
   have h1:=aj9 hx y
   have h2:=ah5 (n:=y) (s:=x)
   simp only [ajV,← h1,h2,Qm.v,Qm.cells] at hnm
   rcases hy:Xn y with _|_
   ·rw [hy] at hnm
    have e3:L.all Xn = false:=by
     rw [ko];exact ⟨y,zk hgj,by simp [hy]⟩
    rw [e3]
    (have zx:=za e2 (za hwj hgj));refine zgo ?_;repeat' first|exact zt|apply zan|intro hc
    all_goals (refine Qd _ rfl ?_;simp only [go_sem];first|done|rfl|exact ⟨_,_,rfl⟩|trace_state)
   ·rw [hy] at hnm
    have hjk2:(L.take (j + 1)).all Xn = true:=by rw [zy,hgj];simp [hy];simpa using hjk
    rcases hb:((L.take j).all fun n=>Yr n x) with _|_
    ·rw [hb,zB] at hall
     (have zx:=za e2 (za hwj hgj));refine zgo ?_;repeat' first|exact zt|apply zan|intro hc
     all_goals exact hL2 _ (j + 1) (by rw [hall];simp only [Nat.reduceAdd,ovT,Je,Nat.reduceEqDiff,reduceIte,Xv,Vx,aiQ,u32,u33,u34,u35,u36,u37,u38,u39,and_self,and_true,true_and]) ⟨by omega,hjk2⟩ (by omega) zoe
    ·rw [hb,zA] at hall
     (have zx:=za e2 (za hwj hgj));refine zgo ?_;repeat' first|exact zt|apply zan|intro hc
     all_goals exact hL2 _ (j + 1) (by rw [hall];simp only [Nat.reduceAdd,ovT,Je,Nat.reduceEqDiff,reduceIte,Xv,Vx,aiQ,u32,u33,u34,u35,u36,u37,u38,u39,and_self,and_true,true_and]) ⟨by omega,hjk2⟩ (by omega) zoe
def abs (lt:Int→Int→Bool) (out:List Int) (x:Int):Nat→Nat
 | 0=>0
 | k + 1=>if lt x (out.getD k 0) = true then abs lt out x k else k + 1
theorem ai8 (lt:Int→Int→Bool) (out:List Int) (x:Int):∀ k,abs lt out x k≤k
 | 0=>zi _
 | k + 1=>by
   rw [abs];split
   ·exact Nat.le_succ_of_le (ai8 lt out x k)
   ·exact zi _
def anI (lt:Int→Int→Bool) (out:List Int) (x:Int):List Int:=out.take (abs lt out x out.length)++[x]++out.drop (abs lt out x out.length)
def U9 (lt:Int→Int→Bool) (l:List Int):List Int:=l.foldl (anI lt) []
theorem anH (lt:Int→Int→Bool) (out:List Int) (x:Int):(anI lt out x).length = out.length + 1:=by
 have:=ai8 lt out x out.length
 simp [anI];omega
theorem aen (lt:Int→Int→Bool):∀ (l out:List Int),(l.foldl (anI lt) out).length = out.length + l.length
 | [],out=>by simp
 | x :: r,out=>by rw [List.foldl_cons,aen lt r,anH];simp;omega
theorem agb (lt:Int→Int→Bool) (l:List Int):(U9 lt l).length = l.length:=by rw [U9,aen];simp
theorem ak5 (lt:Int→Int→Bool) (x:Int):U9 lt [x] = [x]:=by simp [U9,anI,abs]
abbrev ltS (x y:Int):Bool:=decide (yT y < yT x)
theorem al1 (out:List Int) (x:Int):∀ k,abs ltS out x k = al2 out x k
 | 0=>rfl
 | k + 1=>by rw [abs,al2,al1 out x k];simp only [ltS,zL]
theorem ao0 (l:List Int):U9 ltS l = jx l:=by
 have:anI ltS = ahE:=by funext out x;rw [anI,ahE,al1]
 rw [U9,jx,this]
def abo (lt:Int→Int→Bool) (xs:List Int) (a i:Nat):List Int:=xs.take a++(U9 lt ((xs.take i).drop a)++xs.drop i)
def JL:=qd Proofs.Tryz.f253 []
def Yo (Γ:Env) (f:Nat):Prop:=∀ (l:List Int) (hl:l.length < 2 ^ 34),EvW Γ f [.sl 1 (l.map V.int)] 1 (l.map V.int)
theorem qA {Γ:Env} {f:Nat} (h:Has Γ.P f 8 JL.1.1.ac JL.1.2) :Yo Γ f:=by
 intro l hl
 refine Vu h (by simp) (by first|exact je _|exact jc _) fun C hC hm=>?_
 subst hC
 simp only [JL,qd,DC.ac]
 rcases l with _|⟨x,r⟩
 ·repeat' (first|(refine zsk ?_;intro K' hK)|refine zsp ?_|(refine zsc ?_ ?_<;>intro hc<;>first|exact znh|try simp only [znz] at hc)|simp (maxSteps:=1000000) only [go_sem]|(refine hK _ ?_;clear hK K')|apply zan|exact zsq|fail)
  intro t
  rcases t with _|_
  ·repeat' (first|(refine zsk ?_;intro K' hK)|refine zsp ?_|(refine zsc ?_ ?_<;>intro hc<;>first|exact znh|try simp only [znz] at hc)|simp (maxSteps:=1000000) only [go_sem]|(refine hK _ ?_;clear hK K')|apply zan|exact zsq|fail)
   all_goals (refine aa9 (xs:=[]) _ _ rfl ?_ ?_<;>first|rfl|(simp;done))
  ·repeat' (first|(refine zsk ?_;intro K' hK)|refine zsp ?_|(refine zsc ?_ ?_<;>intro hc<;>first|exact znh|try simp only [znz] at hc)|simp (maxSteps:=1000000) only [go_sem]|(refine hK _ ?_;clear hK K')|apply zan|exact zsq|fail)
   all_goals (refine aa9 (xs:=[]) _ _ rfl ?_ ?_<;>first|rfl|(simp;done))
 ·repeat' (first|(refine zsk ?_;intro K' hK)|refine zsp ?_|(refine zsc ?_ ?_<;>intro hc<;>first|exact znh|try simp only [znz] at hc)|simp (maxSteps:=1000000) only [go_sem]|(refine hK _ ?_;clear hK K')|apply zan|exact zsq|fail)
  all_goals first
   | (simp only [zh,List.length_cons] at hl ⊢;omega)
   | (refine aa9 (xs:=V.int x :: List.map V.int r) _ _ rfl ?_ ?_<;>first|rfl|(simp;done))
theorem aln {lt:Int→Int→Bool} {xs:List Int} {a:Nat} (h:a < xs.length):abo lt xs a (a + 1) = xs:=by
 have e:(xs.take (a + 1)).drop a = [xs[a]]:=by
  rw [zy,ze h,km (by simp;omega),zX (by simp;omega)];rfl
 rw [abo,e,ak5,List.singleton_append,← zM h,zZ]
def U8 (P S:List Int) (x:Int) (R:List Int) (q:Nat):List Int:=P++(S.take q++x :: (S.drop q++R))
theorem ak1 {P S R:List Int} {x:Int} {q:Nat}:(U8 P S x R q).length = P.length + S.length + 1 + R.length:=by
 simp only [U8,zC,List.length_cons,zJ,Zl];omega
theorem aoX {P S R:List Int} {x:Int} {q:Nat} (h:q≤S.length):(U8 P S x R q)[P.length + q]? = some x:=by
 have:(S.take q).length = q:=by simp;omega
 rw [U8,kV (by omega),kV (by omega),this]
 simp
theorem aoW {P S R:List Int} {x:Int} {q:Nat} (h:q < S.length):(U8 P S x R (q + 1))[P.length + q]? = some S[q]:=by
 rw [U8,kV (by omega),List.getElem?_append_left (by simp;omega),List.getElem?_take]
 simp [h]
theorem ak9 (S y x:Int) (T:List Int):∀ A:List Int,((A++y :: S :: T).set (A.length + 1) y).set A.length x = A++x :: y :: T
 | []=>rfl
 | z :: A=>by
   have:=ak9 S y x T A
   simp only [List.cons_append,List.length_cons,List.set_cons_succ,this]
theorem ak0 {P S R:List Int} {x:Int} {q:Nat} (h:q < S.length):((U8 P S x R (q + 1)).set (P.length + (q + 1)) S[q]).set (P.length + q) x = U8 P S x R q:=by
 have e1:S.take (q + 1) = S.take q++[S[q]]:=by rw [zy,ze h];rfl
 have e2:S.drop q = S[q] :: S.drop (q + 1):=zM h
 have e3:(S.take q).length = q:=by simp;omega
 have e4:U8 P S x R (q + 1) = (P++S.take q)++S[q] :: x :: (S.drop (q + 1)++R):=by rw [U8,e1];simp only [zP,List.cons_append,List.nil_append]
 have e5:U8 P S x R q = (P++S.take q)++x :: S[q] :: (S.drop (q + 1)++R):=by rw [U8,e2];simp only [zP,List.cons_append,List.nil_append]
 have hl:(P++S.take q).length = P.length + q:=by rw [zC,e3]
 have hl2:P.length + (q + 1) = (P++S.take q).length + 1:=by omega
 rw [e4,e5,hl2,← hl]
 exact ak9 _ _ _ _ _
def QX:=qd Proofs.Tryz.f294 [⟨fun _=>false,[8,9,12,13,14,16],.one 0 (.one 1 (.one 2 (.one 3 (.one 4 (.one 5 (.one 6 (.one 7 (.one 10 (.one 11 (.or 8 (.or 9 (.one 12 (.one 13 (.one 14 (.one 15 (.one 16 (.one 17 (.done))))))) (.or 12 (.or 9 (.one 13 (.one 14 (.one 15 (.one 16 (.one 17 (.done)))))) (.or 13 (.one 9 (.one 14 (.one 15 (.one 16 (.one 17 (.done)))))) (.done))) (.done))) (.or 12 (.or 8 (.or 9 (.one 13 (.one 14 (.one 15 (.one 16 (.one 17 (.done)))))) (.or 13 (.one 9 (.one 14 (.one 15 (.one 16 (.one 17 (.done)))))) (.done))) (.or 13 (.one 8 (.one 9 (.one 14 (.one 15 (.one 16 (.one 17 (.done))))))) (.done))) (.done))))))))))))⟩,⟨fun _=>true,[14],zoc 0 17⟩]
def Jh (Γ:Env) (f:Nat):Prop:=∀ (xs:List Int) (a b:Nat) (g:Nat) (c:Int→Int→Int) (hcmp:∀ x y,EvN Γ g [V.int x,V.int y] (V.int (c x y))) (hab:a≤b) (hb:b≤xs.length) (hx:xs.length < 2 ^ 34),EvL Γ f [V.int a,V.int b,.clo g []] 1 (xs.map V.int) (.tup []) ((if a = b then xs.map V.int else (abo (fun x y=>decide (c x y < 0)) xs a b).map V.int))
attribute [local go_sem] Yd in
theorem WG {Γ:Env} {f:Nat} (h:Has Γ.P f 53 QX.1.1.ac QX.1.2) :Jh Γ f:=by
 intro xs a b g c hcmp hab hb hx
 refine wG h (by simp) (by simp only [V.closed,Qa,V.noSl,Um,and_self,and_true,true_and]) fun C hC hm=>?_
 subst hC
 simp only [QX,qd,DC.ac]
 have hwa:=Qc (k:=a) (by omega)
 by_cases he:a = b
 ·subst he
  rw [if_pos rfl]
  have e1:decide (((a + 1:Nat):Int) < (a:Int)) = false:=by simp;omega
  (have zx:=hwa);refine zgo ?_;repeat' first|exact zt|apply zan|intro hc
  refine QA (ι:=Unit) (fun _=>True) (fun _=>Yd [(0,.hd 0 0 (xs.map V.int).length),(1,V.int a),(2,V.int a),(3,.clo g []),(8,V.int (a + 1:Nat))] [(0,.buf true 1 (xs.map V.int))] 1) (fun _=>0) () trivial (Qo []) (zwg []) fun j hj K'' hL2=>?_
  (have zx:=e1);refine zgo ?_;repeat' first|exact zt|apply zan|intro hc
  all_goals first|(refine aba _ rfl rfl (by simp only [go_sem]) ?_<;>first|rfl|(simp;done))
 ·rw [if_neg he]
  (have zx:=hwa);refine zgo ?_;repeat' first|exact zt|apply zan|intro hc
  generalize hlt:(fun x y=>decide (c x y < 0)) = lt
  have hlt2:∀ x y,decide (c x y < 0) = lt x y:=by intro x y;rw [← hlt]
  refine QA (ι:=Nat) (fun i=>a + 1≤i∧i≤b) (fun i=>Yd [(0,.hd 0 0 (xs.map V.int).length),(1,V.int a),(2,V.int b),(3,.clo g []),(8,V.int i)] [(0,.buf true 1 ((abo lt xs a i).map V.int))] 1) (fun i=>b - i) (a + 1) ⟨by omega,by omega⟩ (Qo []) (JZ [] zwa (by rw [aln (by omega)];simp only [go_sem,zwl];(repeat' (first|rfl|apply za|omega|exact fun h=>h|exact Exists.intro _ rfl))) (by simp) (by simp) (by omega)) fun i hi K' hL=>?_
  obtain ⟨hi1,hi2⟩:=hi
  by_cases hib:i = b
  ·subst hib
   have e1:decide ((i:Int) < (i:Int)) = false:=by simp
   (have zx:=e1);refine zgo ?_;repeat' first|exact zt|apply zan|intro hc
   all_goals first|(refine aba _ rfl rfl (by simp only [go_sem]) ?_<;>first|rfl|(simp;done))
  ·have e1:decide ((i:Int) < (b:Int)) = true:=by simp;omega
   have hwi:=Qc (k:=i) (by omega)
   obtain ⟨x,hget⟩:∃ x,xs[i]? = some x:=⟨_,ze (by omega)⟩
   have hdx:xs.drop i = x :: xs.drop (i + 1):=by
    rw [zM (by omega)];congr 1
    rw [ze (by omega)] at hget;exact kK hget
   have hP:(xs.take a).length = a:=by simp;omega
   have hS:(U9 lt ((xs.take i).drop a)).length = i - a:=by rw [agb];simp;omega
   have hnext:abo lt xs a (i + 1) = xs.take a++(anI lt (U9 lt ((xs.take i).drop a)) x++xs.drop (i + 1)):=by
    have:(xs.take (i + 1)).drop a = (xs.take i).drop a++[x]:=by
     rw [zy,hget,km (by simp;omega)];rfl
    rw [abo,this,U9,List.foldl_append];rfl
   have hnow:abo lt xs a i = U8 (xs.take a) (U9 lt ((xs.take i).drop a)) x (xs.drop (i + 1)) (i - a):=by
    rw [abo,hdx,U8,← hS,zR,List.drop_length];rfl
   have hcell:∀ q,U8 (xs.take a) (U9 lt ((xs.take i).drop a)) x (xs.drop (i + 1)) q = U8 (xs.take a) (U9 lt ((xs.take i).drop a)) x (xs.drop (i + 1)) q:=fun q=>rfl
   rw [hnow]
   generalize U9 lt ((xs.take i).drop a) = S at *
   have hPg:=hP
   generalize xs.take a = P at *
   have hR:(xs.drop (i + 1)).length = xs.length - (i + 1):=Zl
   generalize xs.drop (i + 1) = R at *
   (have zx:=e1);refine zgo ?_;repeat' first|exact zt|apply zan|intro hc
   refine QA (ι:=Nat) (fun q=>q≤i - a∧abs lt S x q = abs lt S x S.length) (fun q=>Yd [(0,.hd 0 0 (xs.map V.int).length),(1,V.int a),(2,V.int b),(3,.clo g []),(8,V.int i),(9,V.int (a + q:Nat))] [(0,.buf true 1 ((U8 P S x R q).map V.int))] 1) (fun q=>q) (i - a) ⟨by omega,by rw [hS]⟩ (Qo []) (JZ [] (by rw [show a + (i - a) = i by omega];simp only [go_sem,zwl];(repeat' (first|rfl|apply za|omega|exact fun h=>h|exact Exists.intro _ rfl))) zwa (by simp) (by simp) (by omega)) fun q hq K'' hL2=>?_
   obtain ⟨hq1,hq2⟩:=hq
   have hfin:abs lt S x S.length = q→U8 P S x R q = abo lt xs a (i + 1):=by
    intro h
    rw [hnext,anI,h];simp only [U8,zP,List.singleton_append,List.cons_append,List.nil_append]
   have hlen:(U8 P S x R q).length = xs.length:=by rw [ak1,hP,hS,hR];omega
   have gx:=aoX (P:=P) (R:=R) (x:=x) (q:=q) (S:=S) (by omega)
   rw [hP] at gx
   rcases q with _|q
   ·have e2:decide (((a + 0:Nat):Int) > (a:Int)) = false:=by simp
    have hf:=hfin hq2.symm
    (have zx:=za e2 hwi);refine zgo ?_;repeat' first|exact zt|apply zan|intro hc
    rw [hf]
    exact hL _ (i + 1) (Qo []) ⟨by omega,by omega⟩ (by omega) (zwg [])
   ·have hqS:q < S.length:=by omega
    have e2:decide (((a + (q + 1):Nat):Int) > (a:Int)) = true:=zl (by omega)
    have hwj:IntKind.i64.wrap (((a + (q + 1):Nat):Int) - 1) = ((a + q:Nat):Int):=by rw [Q9 (by omega) (by omega)];omega
    have gy:=aoW (P:=P) (R:=R) (x:=x) (q:=q) (S:=S) hqS
    rw [hP] at gy
    have hset:=ak0 (P:=P) (R:=R) (x:=x) (q:=q) (S:=S) hqS
    rw [hP] at hset
    have hyd:S.getD q 0 = S[q]:=by rw [zq,ze hqS];rfl
    rw [abs,hyd] at hq2
    generalize S[q] = y at *
    have hcc:=(hcmp x y).b
    have hd:=hlt2 x y
    rcases hl:lt x y with _|_
    ·rw [hl] at hq2 hd
     simp only [zj,if_false] at hq2
     have hf:=hfin hq2.symm
     (have zx:=za e2 (za hwi (za hwj (za gx (za gy hd)))));refine zgo ?_;repeat' first|exact zt|apply zan|intro hc
     all_goals
      rw [hf]
      exact hL _ (i + 1) (Qo []) ⟨by omega,by omega⟩ (by omega) (zwg [])
    ·rw [hl] at hq2 hd
     simp only [if_true] at hq2
     have hs1:((List.map V.int (U8 P S x R (q + 1))).set (a + (q + 1)) (V.int y))[a + q]? = some (V.int y):=by
      rw [List.getElem?_set_ne (by omega),zF,gy];rfl
     have hs2:((List.map V.int (U8 P S x R (q + 1))).set (a + (q + 1)) (V.int y)).set (a + q) (V.int x) = List.map V.int (U8 P S x R q):=by
      rw [← hset,List.map_set,List.map_set]
     (have zx:=za e2 (za hwi (za hwj (za gx (za gy (za hd (za hs1 hs2)))))));refine zgo ?_;repeat' first|exact zt|apply zan|intro hc
     all_goals exact hL2 _ q (Qo []) ⟨by omega,hq2⟩ (by omega) (zwg [])
theorem alo {lt:Int→Int→Bool} (xs:List Int):abo lt xs 0 xs.length = U9 lt xs:=by simp [abo]
theorem apq (lt:Int→Int→Bool) (xs:List Int):(if 0 = xs.length then xs.map V.int else (abo lt xs 0 xs.length).map V.int) = (U9 lt xs).map V.int:=by
 split
 ·rename_i h
  have:xs = []:=kh h.symm
  subst this;rfl
 ·rw [alo]
def Jt:=qd Proofs.Tryz.f284 []
def J8 (Γ:Env) (f:Nat):Prop:=∀ (xs:List Int) (g:Nat) (c:Int→Int→Int) (hcmp:∀ x y,EvN Γ g [V.int x,V.int y] (V.int (c x y))) (hx:xs.length≤20),EvL Γ f [V.int xs.length,.clo g []] 1 (xs.map V.int) (.tup []) (((U9 (fun x y=>decide (c x y < 0)) xs).map V.int))
attribute [local go_sem] Yd in
theorem Kd {Γ:Env} {f:Nat} (h:Has Γ.P f 63 Jt.1.1.ac Jt.1.2) (z0:Jh Γ 294):J8 Γ f:=by
 intro xs g c hcmp hx
 refine wG h (by simp) (by simp only [V.closed,Qa,V.noSl,Um,and_self,and_true,true_and]) fun C hC hm=>?_
 subst hC
 simp only [Jt,qd,DC.ac]
 have hi:=z0 xs 0 xs.length g c hcmp (by omega) (by omega) (by omega)
 rw [apq] at hi
 have hi0:EvL C.env 294 [V.int 0,V.int xs.length,.clo g []] 1 (xs.map V.int) (.tup []) ((U9 (fun x y=>decide (c x y < 0)) xs).map V.int):=hi
 have hln:(U9 (fun x y=>decide (c x y < 0)) xs).length = xs.length:=agb _ _
 have e9:decide ((20:Int) < (xs.length:Int)) = false:=by simp;omega
 by_cases h20:xs.length = 20
 ·have hj:=z0 (U9 (fun x y=>decide (c x y < 0)) xs) 20 20 g c hcmp (by omega) (by omega) (by omega)
  rw [if_pos rfl] at hj
  generalize U9 (fun x y=>decide (c x y < 0)) xs = ys at *
  rw [h20] at hi0 e9 ⊢
  have hj0:EvL C.env 294 [V.int 20,V.int 20,.clo g []] 1 (ys.map V.int) (.tup []) (ys.map V.int):=hj
  have e20:((20:Nat):Int) = 20:=rfl
  rw [e20] at hi0 e9 ⊢
  refine zgo ?_;repeat' first|exact zt|apply zan|intro hc
  refine QA (ι:=Bool) (fun _=>True) (fun t=>Yd [(0,.hd 0 0 (xs.map V.int).length),(1,V.int 20),(2,.clo g []),(6,V.int 20),(7,V.int (if t then 0 else 20)),(8,V.int (if t then 20 else 40))] [(0,.buf true 1 ((if t then xs else ys).map V.int))] 1) (fun t=>if t then 1 else 0) true trivial (Qo []) (zwg []) fun t ht K' hL=>?_
  rcases t with _|_
  ·simp only [zj,if_false]
   refine zgo ?_;repeat' first|exact zt|apply zan|intro hc
   refine QA (ι:=Unit) (fun _=>True) (fun _=>Yd [(0,.hd 0 0 (xs.map V.int).length),(1,V.int 20),(2,.clo g []),(6,V.int 20)] [(0,.buf true 1 (ys.map V.int))] 1) (fun _=>0) () trivial (Qo []) (zwg []) fun u hu K'' hL2=>?_
   refine zgo ?_;repeat' first|exact zt|apply zan|intro hc
   all_goals first|(refine aba _ rfl rfl (by simp only [go_sem]) ?_;done)|(refine aba _ rfl rfl (by simp only [go_sem]) ?_;rfl)
  ·simp only [if_true]
   refine zgo ?_;repeat' first|exact zt|apply zan|intro hc
   all_goals exact hL _ false (Qo []) trivial (by simp) (zwg [])
 ·generalize U9 (fun x y=>decide (c x y < 0)) xs = ys at *
  have e8:decide ((20:Int)≤(xs.length:Int)) = false:=by simp;omega
  refine zgo ?_;repeat' first|exact zt|apply zan|intro hc
  refine QA (ι:=Unit) (fun _=>True) (fun _=>Yd [(0,.hd 0 0 (xs.map V.int).length),(1,V.int xs.length),(2,.clo g []),(6,V.int 20),(7,V.int 0),(8,V.int 20)] [(0,.buf true 1 (xs.map V.int))] 1) (fun _=>0) () trivial (Qo []) (zwg []) fun u hu K' hL=>?_
  (have zx:=e8);refine zgo ?_;repeat' first|exact zt|apply zan|intro hc
  refine QA (ι:=Unit) (fun _=>True) (fun _=>Yd [(0,.hd 0 0 (xs.map V.int).length),(1,V.int xs.length),(2,.clo g []),(6,V.int 20)] [(0,.buf true 1 (ys.map V.int))] 1) (fun _=>0) () trivial (Qo []) (zwg []) fun u hu K' hL=>?_
  (have zx:=e9);refine zgo ?_;repeat' first|exact zt|apply zan|intro hc
  all_goals first|(refine aba _ rfl rfl (by simp only [go_sem]) ?_;done)|(refine aba _ rfl rfl (by simp only [go_sem]) ?_;rfl)
def QY:=qd Proofs.Tryz.f254 []
def Ji (Γ:Env) (f:Nat):Prop:=∀ (xs:List Int) (g:Nat) (c:Int→Int→Int) (hcmp:∀ x y,EvN Γ g [V.int x,V.int y] (V.int (c x y))) (hx:xs.length≤20),EvL Γ f [.clo g []] 1 (xs.map V.int) (.tup []) (((U9 (fun x y=>decide (c x y < 0)) xs).map V.int))
theorem WH {Γ:Env} {f:Nat} (h:Has Γ.P f 9 QY.1.1.ac QY.1.2) (z0:J8 Γ 284):Ji Γ f:=by
 intro xs g c hcmp hx
 refine wG h (by simp) (by simp only [V.closed,Qa,V.noSl,Um,and_self,and_true,true_and]) fun C hC hm=>?_
 subst hC
 simp only [QY,qd,DC.ac]
 have hi:=z0 xs g c hcmp hx
 have e:((xs.map V.int).length:Int) = (xs.length:Int):=by simp
 (have zx:=e);refine zgo ?_;repeat' first|exact zt|apply zan|intro hc
 all_goals first|(refine aba _ rfl rfl (by simp only [go_sem]) ?_;done)|(refine aba _ rfl rfl (by simp only [go_sem]) ?_;rfl)
theorem adX (c:Int):0≤yT c∧yT c≤512:=by
 unfold yT;split
 ·exact ada _ _
 ·exact ⟨by omega,by omega⟩
def Y3:=qd Proofs.Tryz.f255 []
def Wx (Γ:Env) (f:Nat):Prop:=∀ (x y:Int),EvN Γ f [V.int x,V.int y] (V.int (yT y - yT x))
theorem wv {Γ:Env} {f:Nat} (h:Has Γ.P f 10 Y3.1.1.ac Y3.1.2) (z0:Xp Γ 256):Wx Γ f:=by
 intro x y
 refine Qb h zsi zcl zcl fun C hC hm=>?_
 subst hC
 simp only [Y3,qd,DC.ac]
 have h1:=adX x
 have h2:=adX y
 have hw:IntKind.i64.wrap (yT y - yT x) = yT y - yT x:=Q9 (by omega) (by omega)
 (have zx:=hw);refine zgo ?_;repeat' first|exact zt|apply zan|intro hc
 all_goals (refine Qd _ rfl ?_;simp only [go_sem])
def Wc:=qd Proofs.Tryz.f219 []
def VE (Γ:Env) (f:Nat):Prop:=∀ (l:List Int) (hl:l.length≤20),EvW Γ f [.sl 1 (l.map V.int)] 1 ((jx l).map V.int)
theorem aaw {Γ:Env} {f:Nat} (h:Has Γ.P f 9 Wc.1.1.ac Wc.1.2) (z0:Yo Γ 253) (z1:Ji Γ 254) (z2:Wx Γ 255):VE Γ f:=by
 intro l hl
 refine Vu h (by simp) (by first|exact je _|exact jc _) fun C hC hm=>?_
 subst hC
 simp only [Wc,qd,DC.ac]
 have hs:=z1 l 255 (fun x y=>yT y - yT x) (fun x y=>z2 x y) hl
 have e:(fun x y:Int=>decide (yT y - yT x < 0)) = ltS:=by
  funext x y;simp only [ltS];congr 1;apply propext;omega
 rw [e,ao0] at hs
 have hln:=ab5 l
 refine zgo ?_;repeat' first|exact zt|apply zan|intro hc
 all_goals first|(refine aa9 _ _ rfl ?_ ?_<;>first|rfl|(simp;done)|(simp only [zh];omega))
def JW:=qd Proofs.Tryz.f220 []
def YF (Γ:Env) (f:Nat):Prop:=∀ (x:Int) (m:List Int) (hm2:m.length < 2 ^ 62),EvN Γ f [V.int x,.ro [.sl 1 (m.map V.int)] 0] (V.bool (m.contains x))
theorem jh {Γ:Env} {f:Nat} (h:Has Γ.P f 7 JW.1.1.ac JW.1.2) (z0:Qt Γ 117):YF Γ f:=by
 intro x m hm2
 refine Qb h zsi zcl zcl fun C hC hm=>?_
 subst hC
 simp only [JW,qd,DC.ac]
 have e:decide (Xu x 0 m≥0) = m.contains x:=by
  have:=Kc x m 0
  rw [Zp];simp only [zL,kU];exact this
 (have zx:=e);refine zgo ?_;repeat' first|exact zt|apply zan|intro hc
 all_goals (refine Qd _ rfl ?_;simp only [go_sem])
theorem apr (c:UInt8):decide (Lib.indexByte [45,33,43] c≥0) = decide (c = 45∨c = 33∨c = 43):=by
 by_cases h1:c = 45
 ·subst h1;decide
 ·by_cases h2:c = 33
  ·subst h2;decide
  ·by_cases h3:c = 43
   ·subst h3;decide
   ·have:Lib.indexByte [45,33,43] c = -1:=by
     simp [Lib.indexByte,Ne.symm h1,Ne.symm h2,Ne.symm h3]
    rw [this];simp [h1,h2,h3]
def sgn (c:UInt8):List UInt8:=if c = 0 then [] else [c]
theorem abw {p:Int→Bool} {l:List Int} {k:Nat} {x:Int} (h:l[k]? = some x):(l.take (k + 1)).filter p = (l.take k).filter p++(if p x = true then [x] else []):=by
 rw [zy,h,kG]
 congr 1
 by_cases hx:p x = true<;>simp [hx]
def Yj:=qd Proofs.Tryz.f186 [⟨fun _=>false,[6,7],.one 0 (.one 1 (.one 2 (.one 3 (.one 4 (.one 5 (.or 6 (.one 7 (.one 8 (.one 9 (.one 10 (.one 11 (.one 12 (.one 13 (.one 14 (.done))))))))) (.or 7 (.one 6 (.one 8 (.one 9 (.one 10 (.one 11 (.one 12 (.one 13 (.one 14 (.done))))))))) (.done))))))))⟩,zhn 6]
def Y1 (Γ:Env) (f:Nat):Prop:=∀ (w:List UInt8) (l k:List Int) (hw:w.length < 2 ^ 30) (hr:ahj (l,k)) (hk:k.length < 2 ^ 30),EvT Γ f [V.str w] 1 1 (l.map V.int) (k.map V.int) (V.bool (wordOk w)) (((if wordOk w then doR w (l,k) else (l,k)).1).map V.int) (((if wordOk w then doR w (l,k) else (l,k)).2).map V.int)
attribute [local go_sem] zR Nat.add_sub_cancel Yd in
theorem yO {Γ:Env} {f:Nat} (h:Has Γ.P f 129 Yj.1.1.ac Yj.1.2) (z0:VE Γ 219) (z1:X1 Γ 162) (z2:Wp Γ 93) (z3:YF Γ 220) (z4:Qt Γ 117):Y1 Γ f:=by
 intro w l k hw hr hk
 refine acL h (by simp) (by simp only [V.closed,Qa,V.noSl,Um,and_self,and_true,true_and]) fun C hC hm=>?_
 subst hC
 simp only [Yj,qd,DC.ac]
 have hl16:l.length≤16:=hr.len
 by_cases h0:w = amU
 ·have e1:wordOk w = true:=by simp [wordOk,h0]
  have e2:doR w (l,k) = (jx l,k):=by simp [doR,h0]
  rw [e1,if_pos rfl,e2]
  have e3:(w == [64,115,116,114,101,110,103,116,104]) = true:=by simp [h0,amU]
  (have zx:=e3);refine zgo ?_;repeat' first|exact zt|apply zan|intro hc
  all_goals first
   | (refine Ue _ _ _ _ _ rfl (by simp only [go_sem]) rfl rfl rfl (by decide) (by decide) (by decide) ⟨_,rfl⟩ ⟨_,rfl⟩ ?_ ?_ ?_ ?_<;>first|rfl|(simp;done))
 ·have e3:(w == [64,115,116,114,101,110,103,116,104]) = false:=adY h0
  have ed:doR w (l,k) = doG (Ye w).1 (vc (Ye w).2).1 (l,k):=by rw [doR,adY h0];rfl
  have eo:wordOk w = (vc (Ye w).2).2:=by rw [wordOk,adY h0,kD]
  have hlen:(Ye w).2.length≤w.length:=by
   cases w with
   | nil=>simp [Ye]
   | cons c r=>rw [U6];split<;>simp
  have hs:=(z2 (Ye w).2 (by omega)).b
  have hsl:=aeK (Ye w).2
  have hnd:=ala (Ye w).2
  rw [ed,eo]
  refine xN fun K' hK=>?_
  simp (maxSteps:=1000000) only [go_sem]
  refine hK _ ?_
  clear hK
  clear K'
  (try simp only [go_sem])
  refine vP ?_
  refine xN fun K' hK=>?_
  simp (maxSteps:=1000000) only [go_sem,e3]
  refine hK _ ?_
  clear hK
  clear K'
  (try simp only [go_sem])
  refine abX ⟨_,rfl,fun hc=>Bool.noConfusion hc,fun hc=>?_⟩
  refine ajy ?_
  (try simp only [go_sem])
  refine xN fun K' hK=>?_
  simp (maxSteps:=1000000) only [go_sem]
  refine hK _ ?_
  clear hK
  clear K'
  (try simp only [go_sem])
  have hcut:∃ good:Unit→Prop,good ()∧True:=⟨fun _=>True,trivial,trivial⟩
  refine xO (ι:=Unit) (fun _=>True) (fun _=>Yd [(0,.ptr 0 0),(1,V.str (Ye w).2),(5,V.str (sgn (Ye w).1))] [(0,.box true [.hd 3 0 (l.map V.int).length,.hd 4 0 (k.map V.int).length]),(1,.dead),(2,.dead),(3,.buf true 1 (l.map V.int)),(4,.buf true 1 (k.map V.int))] 5) (fun K' hK'=>?_) (fun _ _=>?_)
  ·rcases w with _|⟨c,r⟩
   ·refine zgo ?_;repeat' first|exact zt|apply zan|intro hc
    all_goals exact hK' _ () (Qo []) trivial (zwg [])
   ·have hib:=apr c
    by_cases hc:c = 45∨c = 33∨c = 43
    ·have hsv:Ye (c :: r) = (c,r):=by rw [U6,if_pos hc]
     rw [zl hc] at hib
     have hsg:sgn c = [c]:=by rw [sgn,if_neg];rintro rfl;simp at hc
     have e4:(c :: r != []) = true:=rfl
     simp only [hsv,hsg] at hK'
     (have zx:=za hib e4);refine zgo ?_;repeat' first|exact zt|apply zan|intro hc
     all_goals exact hK' _ () (Qo []) trivial (zwg [])
    ·have hsv:Ye (c :: r) = (0,c :: r):=by rw [U6,if_neg hc]
     have hsg:sgn 0 = []:=rfl
     rw [zm hc] at hib
     simp only [hsv,hsg] at hK'
     have e4:(c :: r != []) = true:=rfl
     (have zx:=za hib e4);refine zgo ?_;repeat' first|exact zt|apply zan|intro hc
     all_goals exact hK' _ () (Qo []) trivial (zwg [])
  ·have hcase:(Ye w).1 = 0∨(Ye w).1 = 45∨(Ye w).1 = 33∨(Ye w).1 = 43:=by
    cases w with
    | nil=>exact .inl rfl
    | cons c r =>
      rw [U6];split
      ·rename_i h;exact .inr h
      ·exact .inl rfl
   generalize Ye w = sv at *
   obtain ⟨sg,v⟩:=sv
   simp only at hs hsl hnd hlen hcase ⊢
   generalize vc v = S at *
   obtain ⟨m,ok⟩:=S
   simp only at hs hsl hnd ⊢
   rcases ok with _|_
   ·simp only [zj,if_false]
    refine zgo ?_;repeat' first|exact zt|apply zan|intro hc
    all_goals first
     | (refine Ue _ _ _ _ _ rfl (by simp only [go_sem]) rfl rfl rfl (by decide) (by decide) (by decide) ⟨_,rfl⟩ ⟨_,rfl⟩ ?_ ?_ ?_ ?_<;>first|rfl|(simp;done))
   ·simp only [if_true]
    repeat' (first|(refine zsk ?_;intro K' hK)|(refine zrg ?_;intro K' hK)|refine zsp ?_|(refine zsc ?_ ?_<;>intro hc<;>first|exact znh|try simp only [znz] at hc)|simp (maxSteps:=1000000) only [go_sem,Yd]|(refine hK _ ?_;clear hK K')|apply zan|((first|apply jm|apply VA);(focus first|exact (z0 _ zsd)))|((first|apply Ju|apply QZ);(focus first|exact hs|exact (z1 _ _).b|exact (z2 _ zsd).b|exact (z3 _ _ zsd).b|exact (z4 _ _ zsd).b))|exact zsq|fail)
    refine QA (ι:=Nat) (fun j=>j≤l.length) (fun j=>Yd [(0,.ptr 0 0),(5,V.str (sgn sg)),(6,.ptr 5 0),(8,.clo (.n 220) [.ptr 5 0]),(9,.hd 6 0 ((l.take j).filter fun x=>m.contains x).length),(10,.hd 7 0 (Qe (l.take j) m).length),(48,.hd 3 0 (l.map V.int).length),(49,V.int (l.map V.int).length),(50,V.int j)] [(0,.box true [.hd 3 0 (l.map V.int).length,.hd 4 0 (k.map V.int).length]),(1,.dead),(2,.dead),(3,.buf true 1 (l.map V.int)),(4,.buf true 1 (k.map V.int)),(5,.box true [.sl 1 (m.map V.int)]),(6,.buf true 1 (((l.take j).filter fun x=>m.contains x).map V.int)),(7,.buf true 1 ((Qe (l.take j) m).map V.int))] 8) (fun j=>l.length - j) 0 (by omega) (Qo [(5,5005),(6,12005),(7,13005)]) (zwg [(5,5005),(6,12005),(7,13005)]) fun j hj K' hL=>?_
    rcases hd:l.drop j with _|⟨x,r⟩
    ·have hjl:=Qj hd
     have hj0:j = l.length:=by omega
     subst hj0
     have e1:decide ((l.length:Int) < (((l.map V.int).length:Nat):Int)) = false:=by simp
     have hw1:=Jr l m
     have hw2:(l.filter fun x=>m.contains x).length≤l.length:=kp _ _
     have hcat:Qe l m++(l.filter fun x=>m.contains x) = Qe l m++Qe l (Qe l m):=by
      congr 1
      unfold Qe
      refine List.filter_congr fun x hx=>?_
      cases hm:m.contains x<;>simp_all
     rw [zR]
     generalize hmv:(l.filter fun x=>m.contains x) = mv at *
     rcases hcase with rfl|rfl|rfl|rfl
     ·have hd0:doG 0 m (l,k) = (l++Qe (Qe m l) k,k):=rfl
      have hs0:sgn 0 = []:=rfl
      rw [hd0,hs0]
      repeat' (first|(refine zsk ?_;intro K' hK)|(refine zrg ?_;intro K' hK)|refine zsp ?_|(refine zsc ?_ ?_<;>intro hc<;>first|exact znh|try simp only [znz] at hc)|simp (maxSteps:=1000000) only [go_sem,Yd,e1]|(refine hK _ ?_;clear hK K')|apply zan|((first|apply jm|apply VA);(focus first|exact (z0 _ zsd)))|((first|apply Ju|apply QZ);(focus first|exact (z1 _ _).b|exact (z2 _ zsd).b|exact (z3 _ _ zsd).b|exact (z4 _ _ zsd).b))|exact zsq|fail)
      refine QA (ι:=Nat) (fun i=>i≤m.length) (fun i=>Yd [(0,.ptr 0 0),(67,.sl 1 (m.map V.int)),(68,V.int (m.map V.int).length),(69,V.int i)] [(0,.box true [.hd 3 0 (l++Qe (Qe (m.take i) l) k).length,.hd 4 0 (k.map V.int).length]),(1,.dead),(2,.dead),(3,.buf true 1 ((l++Qe (Qe (m.take i) l) k).map V.int)),(4,.buf true 1 (k.map V.int))] 5) (fun i=>m.length - i) 0 (by omega) (Qo []) (JZ [] zwa (by simp only [go_sem,zwl];simp only [List.take_zero,Qe,List.filter_nil,zU,zh];(repeat' (first|rfl|apply za|omega|exact fun h=>h|exact Exists.intro _ rfl))) (by simp [Qo]) (by simp) (by omega)) fun i hi K' hL=>?_
      rcases hdi:m.drop i with _|⟨c,r⟩
      ·have hil:=Qj hdi
       have e2:decide ((i:Int) < (((m.map V.int).length:Nat):Int)) = false:=by simp;omega
       have e3:m.take i = m:=zb hil
       rw [e3]
       repeat' (first|(refine zsk ?_;intro K' hK)|(refine zrg ?_;intro K' hK)|refine zsp ?_|(refine zsc ?_ ?_<;>intro hc<;>first|exact znh|try simp only [znz] at hc)|simp (maxSteps:=1000000) only [go_sem,Yd,e2]|(refine hK _ ?_;clear hK K')|apply zan|((first|apply jm|apply VA);(focus first|exact (z0 _ zsd)))|((first|apply Ju|apply QZ);(focus first|exact (z1 _ _).b|exact (z2 _ zsd).b|exact (z3 _ _ zsd).b|exact (z4 _ _ zsd).b))|exact zsq|fail)
       all_goals first
        | (refine Ue _ _ _ _ _ rfl (by simp only [go_sem]) rfl rfl rfl (by decide) (by decide) (by decide) ⟨_,rfl⟩ ⟨_,rfl⟩ ?_ ?_ ?_ ?_<;>first|rfl|(simp;done))
      ·obtain ⟨hi',hgi,hri⟩:=Qf hdi
       have hwi:=Qc (k:=i) (by omega)
       have e2:decide ((i:Int) < (((m.map V.int).length:Nat):Int)) = true:=by simp;omega
       have ha:=jt (m:=l) hgi
       have hnc:c ∉ m.take i:=by
        intro h
        have h2:m.take i++c :: r = m:=by rw [← hdi,zZ]
        rw [← h2] at hnd
        exact (kj.1 hnd).2.2 c h c (by simp) rfl
       have hal:(Qe (Qe (m.take i) l) k).length≤16:=by
        have q1:=Jr (Qe (m.take i) l) k
        have q2:=Jr (m.take i) l
        rw [zJ] at q2;omega
       have hin:c∈l++Qe (Qe (m.take i) l) k↔c∈l:=by
        rw [zW]
        exact ⟨fun h=>h.elim id fun h=>absurd (JF.1 (JF.1 h).1).1 hnc,Or.inl⟩
       have hf1:=Kc c (l++Qe (Qe (m.take i) l) k) 0
       have hf2:=Kc c k 0
       have hc1:=(z4 (l++Qe (Qe (m.take i) l) k) c (by rw [zC];omega)).b
       have hc2:=(z4 k c (by omega)).b
       by_cases hcl:c∈l
       ·rw [zl (hf1.2 (hin.2 hcl))] at hc1
        rw [if_pos (by simpa using hcl),zU] at ha
        rw [← ha] at hc1 ⊢
        repeat' (first|(refine zsk ?_;intro K' hK)|(refine zrg ?_;intro K' hK)|refine zsp ?_|(refine zsc ?_ ?_<;>intro hc<;>first|exact znh|try simp only [znz] at hc)|simp (maxSteps:=1000000) only [go_sem,Yd,e2,hwi,Int.toNat_natCast,zF,hgi,zR,aeF]|(refine hK _ ?_;clear hK K')|apply zan|((first|apply jm|apply VA);(focus first|exact (z0 _ zsd)))|((first|apply Ju|apply QZ);(focus first|exact hc1|exact (z1 _ _).b|exact (z2 _ zsd).b|exact (z3 _ _ zsd).b|exact (z4 _ _ zsd).b))|exact zsq|fail)
        all_goals first
         | exact hL _ (i + 1) (Qo []) (by omega) (by omega) (zwg [])
       ·rw [zm (fun h=>hcl (hin.1 (hf1.1 h)))] at hc1
        rw [if_neg (by simpa using hcl)] at ha
        by_cases hck:c∈k
        ·have hb:Qe (Qe (m.take (i + 1)) l) k = Qe (Qe (m.take i) l) k:=by
          rw [ha,Qe,kG];simp [hck,Qe]
         rw [zl (hf2.2 hck)] at hc2
         rw [← hb] at hc1 ⊢
         repeat' (first|(refine zsk ?_;intro K' hK)|(refine zrg ?_;intro K' hK)|refine zsp ?_|(refine zsc ?_ ?_<;>intro hc<;>first|exact znh|try simp only [znz] at hc)|simp (maxSteps:=1000000) only [go_sem,Yd,e2,hwi,Int.toNat_natCast,zF,hgi,zR,aeF]|(refine hK _ ?_;clear hK K')|apply zan|((first|apply jm|apply VA);(focus first|exact (z0 _ zsd)))|((first|apply Ju|apply QZ);(focus first|exact hc1|exact hc2|exact (z1 _ _).b|exact (z2 _ zsd).b|exact (z3 _ _ zsd).b|exact (z4 _ _ zsd).b))|exact zsq|fail)
         all_goals first
          | exact hL _ (i + 1) (Qo []) (by omega) (by omega) (zwg [])
        ·have hb:l++Qe (Qe (m.take (i + 1)) l) k = (l++Qe (Qe (m.take i) l) k)++[c]:=by
          rw [ha,Qe,kG];simp [hck,Qe]
         rw [zm (fun h=>hck (hf2.1 h))] at hc2
         have hacc:(l++Qe (Qe (m.take i) l) k).length≤32:=by rw [zC];omega
         generalize l++Qe (Qe (m.take i) l) k = acc at *
         have hb2:List.take acc.length (List.map V.int acc)++[V.int c] = (acc++[c]).map V.int:=by
          rw [zb (by simp),zD];rfl
         have hln:acc.length + 1 = (acc++[c]).length:=by simp
         repeat' (first|(refine zsk ?_;intro K' hK)|(refine zrg ?_;intro K' hK)|refine zsp ?_|(refine zsc ?_ ?_<;>intro hc<;>first|exact znh|try simp only [znz] at hc)|simp (maxSteps:=1000000) only [go_sem,Yd,e2,hwi,Int.toNat_natCast,zF,hgi,zR,aeF]|(refine hK _ ?_;clear hK K')|apply zan|((first|apply jm|apply VA);(focus first|exact (z0 _ zsd)))|((first|apply Ju|apply QZ);(focus first|exact hc1|exact hc2|exact (z1 _ _).b|exact (z2 _ zsd).b|exact (z3 _ _ zsd).b|exact (z4 _ _ zsd).b))|exact zsq|fail)
         all_goals first
          | (have hb3:List.map V.int acc++[V.sc (Value.int .i64 c)] = (acc++[c]).map V.int:=by simp
             rw [hb3,hln]
             refine hL _ (i + 1) (Qo [(3,27005)]) (by omega) (by omega) ?_
             rw [hb]
             exact zwg [(3,27005)])
          | (simp only [zC] at *;omega)
     ·have hd0:doG 45 m (l,k) = (Qe l m,k):=rfl
      have hs0:sgn 45 = [45]:=rfl
      rw [hd0,hs0]
      repeat' (first|(refine zsk ?_;intro K' hK)|(refine zrg ?_;intro K' hK)|refine zsp ?_|(refine zsc ?_ ?_<;>intro hc<;>first|exact znh|try simp only [znz] at hc)|simp (maxSteps:=1000000) only [go_sem,Yd,e1]|(refine hK _ ?_;clear hK K')|apply zan|((first|apply jm|apply VA);(focus first|exact (z0 _ zsd)))|((first|apply Ju|apply QZ);(focus first|exact (z1 _ _).b|exact (z2 _ zsd).b|exact (z3 _ _ zsd).b|exact (z4 _ _ zsd).b))|exact zsq|fail)
      all_goals first
       | (refine Ue _ _ _ _ _ rfl (by simp only [go_sem]) rfl rfl rfl (by decide) (by decide) (by decide) ⟨_,rfl⟩ ⟨_,rfl⟩ ?_ ?_ ?_ ?_<;>first|rfl|(simp;done))
     ·have hd0:doG 33 m (l,k) = (Qe l m,k++m):=rfl
      have hs0:sgn 33 = [33]:=rfl
      rw [hd0,hs0]
      repeat' (first|(refine zsk ?_;intro K' hK)|(refine zrg ?_;intro K' hK)|refine zsp ?_|(refine zsc ?_ ?_<;>intro hc<;>first|exact znh|try simp only [znz] at hc)|simp (maxSteps:=1000000) only [go_sem,Yd,e1,zR]|(refine hK _ ?_;clear hK K')|apply zan|((first|apply jm|apply VA);(focus first|exact (z0 _ zsd)))|((first|apply Ju|apply QZ);(focus first|exact (z1 _ _).b|exact (z2 _ zsd).b|exact (z3 _ _ zsd).b|exact (z4 _ _ zsd).b))|exact zsq|fail)
      all_goals first
       | (refine Ue _ _ _ _ _ rfl (by simp only [go_sem]) rfl rfl rfl (by decide) (by decide) (by decide) ⟨_,rfl⟩ ⟨_,rfl⟩ ?_ ?_ ?_ ?_<;>first|rfl|(simp;done))
     ·have hd0:doG 43 m (l,k) = (Qe l m++Qe l (Qe l m),k):=rfl
      have hs0:sgn 43 = [43]:=rfl
      rw [hd0,hs0,← hcat]
      repeat' (first|(refine zsk ?_;intro K' hK)|(refine zrg ?_;intro K' hK)|refine zsp ?_|(refine zsc ?_ ?_<;>intro hc<;>first|exact znh|try simp only [znz] at hc)|simp (maxSteps:=1000000) only [go_sem,Yd,e1,aeF]|(refine hK _ ?_;clear hK K')|apply zan|((first|apply jm|apply VA);(focus first|exact (z0 _ zsd)))|((first|apply Ju|apply QZ);(focus first|exact (z1 _ _).b|exact (z2 _ zsd).b|exact (z3 _ _ zsd).b|exact (z4 _ _ zsd).b))|exact zsq|fail)
      all_goals first
       | (refine Ue _ _ _ _ _ rfl (by simp only [go_sem]) rfl rfl rfl (by decide) (by decide) (by decide) ⟨_,rfl⟩ ⟨_,rfl⟩ ?_ ?_ ?_ ?_<;>first|rfl|(simp;done))
    ·obtain ⟨hj',hget,hr'⟩:=Qf hd
     have hwj:=Qc (k:=j) (by omega)
     have e1:decide ((j:Int) < (((l.map V.int).length:Nat):Int)) = true:=by simp;omega
     have h1:=jt (m:=m) hget
     have h2:=abw (p:=fun x=>m.contains x) hget
     have hl1:(Qe (l.take j) m).length≤16:=by have:=Jr (l.take j) m;rw [zJ] at this;omega
     have hl2:((l.take j).filter fun x=>m.contains x).length≤16:=by have:=kp (fun x=>m.contains x) (l.take j);rw [zJ] at this;omega
     have hcl:=(z3 x m (by omega)).b
     generalize Qe (l.take j) m = rs at *
     generalize (l.take j).filter (fun x=>m.contains x) = mv at *
     rcases hx:m.contains x with _|_
     ·rw [hx] at h1 h2 hcl
      simp only [zj,if_false,zU] at h1 h2
      have hb:List.take rs.length (List.map V.int rs)++[V.int x] = (rs++[x]).map V.int:=by
       rw [zb (by simp),zD];rfl
      have hln:rs.length + 1 = (rs++[x]).length:=by simp
      repeat' (first|(refine zsk ?_;intro K' hK)|(refine zrg ?_;intro K' hK)|refine zsp ?_|(refine zsc ?_ ?_<;>intro hc<;>first|exact znh|try simp only [znz] at hc)|simp (maxSteps:=1000000) only [go_sem,Yd,e1,hwj,Int.toNat_natCast,zF,hget]|(refine hK _ ?_;clear hK K')|apply zan|((first|apply jm|apply VA);(focus first|exact (z0 _ zsd)))|((first|apply Ju|apply QZ);(focus first|exact hcl|exact (z1 _ _).b|exact (z2 _ zsd).b|exact (z3 _ _ zsd).b|exact (z4 _ _ zsd).b))|exact zsq|fail)
      rw [hb,hln]
      refine hL _ (j + 1) (Qo [(7,10008)]) (by omega) (by omega) ?_
      rw [h1,h2]
      exact zwg [(7,10008)]
     ·rw [hx] at h1 h2 hcl
      simp only [if_true,zU] at h1 h2
      have hb:List.take mv.length (List.map V.int mv)++[V.int x] = (mv++[x]).map V.int:=by
       rw [zb (by simp),zD];rfl
      have hln:mv.length + 1 = (mv++[x]).length:=by simp
      repeat' (first|(refine zsk ?_;intro K' hK)|(refine zrg ?_;intro K' hK)|refine zsp ?_|(refine zsc ?_ ?_<;>intro hc<;>first|exact znh|try simp only [znz] at hc)|simp (maxSteps:=1000000) only [go_sem,Yd,e1,hwj,Int.toNat_natCast,zF,hget]|(refine hK _ ?_;clear hK K')|apply zan|((first|apply jm|apply VA);(focus first|exact (z0 _ zsd)))|((first|apply Ju|apply QZ);(focus first|exact hcl|exact (z1 _ _).b|exact (z2 _ zsd).b|exact (z3 _ _ zsd).b|exact (z4 _ _ zsd).b))|exact zsq|fail)
      rw [hb,hln]
      refine hL _ (j + 1) (Qo [(6,10008)]) (by omega) (by omega) ?_
      rw [h1,h2]
      exact zwg [(6,10008)]
def XD:=qd Proofs.Tryz.f151 []
def W9 (Γ:Env) (f:Nat):Prop:=∀ (s:List UInt8) (hs:s.length < 2 ^ 30),EvC Γ f [V.str s] (Vr (Xm s))
attribute [local go_sem] Yd in
theorem vr {Γ:Env} {f:Nat} (h:Has Γ.P f 39 XD.1.1.ac XD.1.2) (z0:yM Γ 185) (z1:Ur Γ 148) (z2:Y1 Γ 186):W9 Γ f:=by
 intro s hs
 refine Qn h zsi (vj _) fun C hC hm=>?_
 subst hC
 simp only [XD,qd,DC.ac]
 have hct:=(z0 s 58 (by omega)).b
 have hsp:=(z1 s 58 (by omega)).b
 have hpos:1≤(QK 58 s).length:=by
  have:QK 58 s≠[]:=af8 _ _ _
  rcases h:QK 58 s with _|⟨a,b⟩
  ·exact absurd h this
  ·simp
 by_cases h1:s.length > 8192
 ·have e1:decide ((s.length:Int) > 8192) = true:=by simp;omega
  have e2:Xm s = ([],0,3):=by rw [Xm,if_pos h1]
  rw [e2,Vr]
  (have zx:=e1);refine zgo ?_;repeat' first|exact zt|apply zan|intro hc
  all_goals (refine Qd _ rfl ?_;simp only [go_sem];first|done|rfl|exact ⟨_,_,rfl⟩|trace_state)
 ·have e1:decide ((s.length:Int) > 8192) = false:=by simp;omega
  by_cases h2:s = []
  ·subst h2
   have e2:Xm [] = ([],0,0):=rfl
   have e4:decide (((((QK 58 []).length - 1:Nat)):Int)≥200) = false:=rfl
   rw [e2,Vr]
   (have zx:=za e1 e4);refine zgo ?_;repeat' first|exact zt|apply zan|intro hc
   all_goals (refine Qd _ rfl ?_;simp only [go_sem];first|done|rfl|exact ⟨_,_,rfl⟩|trace_state)
  ·have e3:(s == []) = false:=by simpa using h2
   have hmem:∀ w∈QK 58 s,w.length < 2 ^ 30:=fun w hw=>by have:=ad1 hw;omega
   have hlen:=xE 58 s
   by_cases h3:(QK 58 s).length > 200
   ·have e2:Xm s = ([],0,3):=by rw [Xm,if_neg h1,if_neg h2,if_pos h3]
    have e4:decide (((((QK 58 s).length - 1:Nat)):Int)≥200) = true:=by simp;omega
    rw [e2,Vr]
    (have zx:=za e1 (za e3 e4));refine zgo ?_;repeat' first|exact zt|apply zan|intro hc
    all_goals (refine Qd _ rfl ?_;simp only [go_sem];first|done|rfl|exact ⟨_,_,rfl⟩|trace_state)
   ·have e2:Xm s = goP (QK 58 s) 0 ([],[]):=by rw [Xm,if_neg h1,if_neg h2,if_neg h3]
    have e4:decide (((((QK 58 s).length - 1:Nat)):Int)≥200) = false:=by simp;omega
    rw [e2,Vr]
    generalize QK 58 s = ws at *
    (have zx:=za e1 (za e3 e4));refine zgo ?_;repeat' first|exact zt|apply zan|intro hc
    refine Ug 14000 0 1 rfl rfl ?_
    refine Ug 14000 1 1 rfl rfl ?_
    refine QA (ι:=Nat×akJ) (fun q=>q.1≤ws.length∧ahj q.2∧q.2.2.length≤16 * q.1∧goP (ws.drop q.1) q.1 q.2 = goP ws 0 ([],[]))
     (fun q=>Yd [(5,.ptr 0 0),(21,.sl 1 (ws.map V.str)),(22,V.int (ws.map V.str).length),(23,V.int q.1)] [(0,.box true [.hd 1 0 (q.2.1.map V.int).length,.hd 2 0 (q.2.2.map V.int).length]),(1,.buf true 1 (q.2.1.map V.int)),(2,.buf true 1 (q.2.2.map V.int))] 3)
     (fun q=>ws.length - q.1) (0,[],[]) ⟨by simp,ali,by simp,by simp⟩ (Qo [(0,14000),(1,20000),(2,20001)]) (JZ [(0,14000),(1,20000),(2,20001)] zwa (by simp only [List.set_cons_zero,List.set_cons_succ,Nat.reduceAdd];simp only [go_sem,zwl];(repeat' (first|rfl|apply za|omega|exact fun h=>h|exact Exists.intro _ rfl))) (by simp [Qo]) (by simp;omega) (by omega)) fun q hq K' hL=>?_
    obtain ⟨k,l,m⟩:=q
    obtain ⟨q1,q2,q3,hinv⟩:=hq
    simp only at q1 q2 q3 hinv
    simp only
    rcases hd:ws.drop k with _|⟨w,r⟩
    ·have hk:=Qj hd
     rw [hd,goP] at hinv
     rw [← hinv]
     have e5:decide ((k:Int) < (((ws.map V.str).length:Nat):Int)) = false:=by simp;omega
     simp only [Vr]
     (have zx:=e5);refine zgo ?_;repeat' first|exact zt|apply zan|intro hc
     all_goals (refine Qd _ rfl ?_;simp only [go_sem];rw [zb (by simp)])
    ·obtain ⟨hk',hget,hr⟩:=Qf hd
     have hwm:=hmem w (zk hget)
     have hw:=Qc (k:=k) (by omega)
     have e5:decide ((k:Int) < (((ws.map V.str).length:Nat):Int)) = true:=by simp;omega
     rw [hd,goP] at hinv
     have hdo:=z2 w l m hwm q2 (by omega)
     have hdl:=ami w (l,m)
     have hdo2:=aoG w (l,m) q2
     rcases ho:wordOk w with _|_
     ·rw [ho] at hinv hdo
      simp only [zj,if_false] at hinv hdo
      rw [← hinv]
      simp only [Vr]
      (have zx:=za e5 (za hw hget));refine zgo ?_;repeat' first|exact zt|apply zan|intro hc
      all_goals (refine Qd _ rfl ?_;simp only [go_sem];first|done|rfl|exact ⟨_,_,rfl⟩|trace_state)
     ·rw [ho] at hinv hdo
      simp only [if_true] at hinv hdo
      generalize doR w (l,m) = p at *
      obtain ⟨l2,m2⟩:=p
      simp only at hdo hdl hinv
      (have zx:=za e5 (za hw hget));refine zgo ?_;repeat' first|exact zt|apply zan|intro hc
      refine hL _ (k + 1,l2,m2) (Qo [(1,8003),(2,8004)]) ⟨by simp only;omega,hdo2,by simp only;omega,by simp only;rw [hr];exact hinv⟩ (by simp only;omega) (zwg [(1,8003),(2,8004)])
end Av
end
