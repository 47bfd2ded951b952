/- K23 -/
import Derived.Test.YtlpaikjhphkioaaGreatK20
import Derived.Test.YtlpaikjhphkioaaGreatK22
import Derived.Test.YtlpaikjhphkioaaGreatK12
import Derived.Test.YtlpaikjhphkioaaGreatK14
set_option linter.unusedVariables false
set_option linter.unusedSimpArgs false
noncomputable section
set_option maxRecDepth 10000
set_option maxHeartbeats 4000000
namespace Av
open Go
attribute [local irreducible] AWp Uv qW xf awS awC abB awQ acd QZ UL aa2 awR Kc awB okR yu ris
section
variable {C:Ctx} {nt:Nat} {s:St} {K:St→Prop} {E:Nat→St→Prop} {R:St→Prop}
theorem akR {x:AC} {ι:Type} (good:ι→Prop) (mid:ι→St) (pre:St→St) (h:∀ K':St→Prop,(∀ s' i τ,good i→ajL C.m τ (pre s') (mid i)→K' s')→AWp C nt x s K' E R) (h':∀ i,good i→∀ s' τ,ajL C.m τ (pre s') (mid i)→K s'):AWp C nt x s K E R:=h K fun s' i τ g w=>h' i g s' τ w
end
def wO (f:Qa) (e:QT):QT:={ e with machs:=if f.mach = 0 then e.machs else acx ltJ e.machs f.mach }
def atx (l:List Qa) (p:List Nat) (k:Nat) (f:Qa) (q:List QT×Nat×QT):Prop:=q.1[q.2.1]? = some q.2.2∧q.1.set q.2.1 (wO f q.2.2) = YZ l p (k + 1)∧q.1.length≤400∧q.2.2.machs.length≤400
def nmS (N a H M F q:Nat):Nat:=if q = 3 * a then H else if q = 3 * a + 1 then M else if q = 3 * a + 2 then F else N + q
theorem adA {s:St} {ts:List (Nat×V)} {p K W:List Nat} {fx:List Ob} {es0 es1:List QT} {e1:QT} {N a H M F:Nat} {els:List V} (x:List Nat) (hes:es1 = es0.set a e1) (hx:x.length = 3 + fx.length) (ha:a < es0.length) (hlen:es0.length≤400)
  (ht:∀ q∈ts,s.t q.1 = q.2.ren (abZ x (nmS N a H M F))∧q.2.lt 2000) (hfl:fx.length≤1)
  (h0:s.o (x.getD 0 0) = some (.box true (Qt p))) (h1:s.o (x.getD 1 0) = some (.map (Qt K) (Qt W) 0)) (h2:s.o (x.getD 2 0) = some (.obuf true 4 els))
  (hfx:∀ k y,fx[k]? = some y→∃ z,s.o (x.getD (3 + k) 0) = some z∧z.weak (abZ x (nmS N a H M F)) 2000 y)
  (hels:∀ j,els[j]? = if j = a then some (.agg [V.int e1.num,.hd H 0 e1.hosts.length,mhd M e1.machs,.hd F 0 e1.finds.length]) else (U9 N es0)[j]?)
  (hfar:∀ q y,q < 3 * es0.length→q / 3≠a→(abY es0)[q]? = some y→s.o (N + q) = some y)
  (hH:s.o H = some (.buf true 1 (e1.hosts.map V.str))) (hM:∃ y,s.o M = some y∧(e1.machs≠[]→y = .buf true 1 (e1.machs.map V.int))) (hF:s.o F = some (.buf true 1 (Qt e1.finds)))
  (hn:x.Nodup) (hxn:∀ q,q < 3 * es0.length→N + q ∉ x) (hHx:H ∉ x∧M ∉ x∧F ∉ x) (hd:H≠M∧H≠F∧M≠F)
  (hHN:H = N + 3 * a∨H < N∨N + 3 * es0.length≤H) (hMN:M = N + (3 * a + 1)∨M < N∨N + 3 * es0.length≤M) (hFN:F = N + (3 * a + 2)∨F < N∨N + 3 * es0.length≤F) :
  ajL 0 (abZ x (nmS N a H M F)) s { t:=KD ts,o:=fun k=>(eO p K W fx es1)[k]?,n:=2000 }:=by
 subst hes
 have a0:nmS N a H M F (3 * a) = H:=by rw [nmS,if_pos rfl]
 have a1:nmS N a H M F (3 * a + 1) = M:=by rw [nmS,if_neg (by omega),if_pos rfl]
 have a2:nmS N a H M F (3 * a + 2) = F:=by rw [nmS,if_neg (by omega),if_neg (by omega),if_pos rfl]
 have a3:∀ q,q / 3≠a→nmS N a H M F q = N + q:=fun q hq=>by rw [nmS,if_neg (by omega),if_neg (by omega),if_neg (by omega)]
 have b1:∀ q,q / 3 = a→(q = 3 * a∨q = 3 * a + 1∨q = 3 * a + 2):=fun q hq=>by omega
 have gt:∀ j,(es0.set a e1)[j]? = if j = a then some e1 else es0[j]?:=fun j=>by
  rw [ka]
  by_cases hj:a = j
  ·subst hj;rw [if_pos rfl,if_pos ha,if_pos rfl]
  ·rw [if_neg hj,if_neg (fun e=>hj e.symm)]
 refine ajR (n:=2000) (by rw [zU];omega) x _ els hx ht h0 h1 (.inl h2) hfx (fun j=>?_) (fun j e he=>?_) hn (fun q hq=>?_) (fun c d hc hd' hcd=>?_)
 ·rw [hels,gt]
  by_cases hj:j = a
  ·subst hj;rw [if_pos rfl,if_pos rfl,a0,a1,a2];rfl
  ·rw [if_neg hj,if_neg hj,VG,a3 _ (by omega),a3 _ (by omega),a3 _ (by omega)]
   cases es0[j]? with
   | none=>rfl
   | some e=>simp only [Option.map_some,QT.own,kR]
 ·rw [gt] at he
  by_cases hj:j = a
  ·subst hj
   rw [if_pos rfl] at he;cases he
   rw [a0,a1,a2]
   exact ⟨hH,hM,hF⟩
  ·rw [if_neg hj] at he
   have hjl:=(zn.1 he).1
   rw [a3 _ (by omega),a3 _ (by omega),a3 _ (by omega)]
   refine ⟨hfar _ _ (by omega) (by omega) (by rw [Xp,he];rfl),⟨mob e.machs,hfar _ _ (by omega) (by omega) (by rw [VF,he];rfl),fun hne=>by rw [mob,if_neg hne]⟩,hfar _ _ (by omega) (by omega) (by rw [Xo,he];rfl)⟩
 ·rw [zU] at hq
  by_cases hqa:q / 3 = a
  ·rcases b1 q hqa with rfl|rfl|rfl
   ·rw [a0];exact hHx.1
   ·rw [a1];exact hHx.2.1
   ·rw [a2];exact hHx.2.2
  ·rw [a3 q hqa];exact hxn q hq
 ·rw [zU] at hc hd'
  obtain ⟨d1,d2,d3⟩:=hd
  by_cases hca:c / 3 = a<;>by_cases hda:d / 3 = a
  ·rcases b1 c hca with rfl|rfl|rfl<;>rcases b1 d hda with rfl|rfl|rfl<;>simp only [a0,a1,a2] at hcd<;>omega
  ·rw [a3 d hda] at hcd
   rcases b1 c hca with rfl|rfl|rfl<;>simp only [a0,a1,a2] at hcd<;>omega
  ·rw [a3 c hca] at hcd
   rcases b1 d hda with rfl|rfl|rfl<;>simp only [a0,a1,a2] at hcd<;>omega
  ·rw [a3 c hca,a3 d hda] at hcd;omega
def aog (l:List Qa) (gap:Int):V:=if J8 l gap = 0 then .tup [.sl 4 ((Jv l gap).map QT.v),V.int 0] else .tup [.sl 4 [],V.int (J8 l gap)]
def eTs (l:List Qa) (n k:Nat):List (Nat×V):=[(7,.ptr 0 0),(8,.hd 2 0 n),(9,.mp 1),(24,.sl 11 (l.map Qa.v)),(25,V.int l.length),(26,V.int k)]
def eSt (l:List Qa) (p:List Nat) (es:List QT) (k:Nat):St:={ t:=KD (eTs l es.length k),o:=fun a=>(eO p (es.map QT.num) (List.range es.length) [] es)[a]?,n:=2000 }
def mTs (l:List Qa) (n a k:Nat):List (Nat×V):=[(7,.ptr 0 0),(8,.hd 2 0 n),(9,.mp 1),(11,.ptr 3 0),(13,.ept 2 a 0),(24,.sl 11 (l.map Qa.v)),(25,V.int l.length),(26,V.int k)]
def mSt (l:List Qa) (p:List Nat) (es:List QT) (f:Qa) (a k:Nat):St:={ t:=KD (mTs l es.length a k),o:=fun x=>(eO p (es.map QT.num) (List.range es.length) [.box true f.cells] es)[x]?,n:=2000 }
theorem wR (n:Nat):Qt (List.range n)++[V.int (n:Int)] = Qt (List.range (n + 1)):=by rw [qk,ZB]
theorem aj6 {o:Nat→Option Ob}:∀ (es:List QT) (n:Nat),(∀ q y,(abY es)[q]? = some y→o (n + q) = some y)→Jq o [] none (U9 n es) (es.map QT.v)
 | [],_,_=>trivial
 | e :: r,n,h=>by
   have h0:=h 0 _ rfl
   have h1:=h 1 _ rfl
   have h2:=h 2 _ rfl
   refine ⟨⟨rfl,?_,?_,?_,trivial⟩,aj6 r (n + 3) fun q y hq=>?_⟩
   ·rw [ajB];exact ⟨trivial,by simp,.inl ⟨true,_,h0,by rw [kK,zh (by simp)]⟩⟩
   ·unfold mhd
    split
    ·rename_i hm;rw [hm];rfl
    ·rename_i hm
     rw [mob,if_neg hm] at h1
     rw [ajB];exact ⟨trivial,by simp,.inl ⟨true,_,h1,by rw [kK,zh (by simp)]⟩⟩
   ·rw [ajB];exact ⟨trivial,by simp,.inl ⟨true,_,h2,by rw [kK,zh (by rw [Jh];exact zj _)]⟩⟩
   ·rw [show n + 3 + q = n + (q + 1 + 1 + 1) by omega]
    exact h (q + 1 + 1 + 1) y (by simpa [abY] using hq)
theorem anN:∀ es:List QT,ntL (es.map QT.v)
 | []=>trivial
 | e :: r=>⟨by simp [QT.v],anN r⟩
theorem ab4:∀ es:List QT,Qd (es.map QT.v)
 | []=>trivial
 | e :: r=>⟨by simp only [QT.v,V.closed,Qd,and_self],ab4 r⟩
theorem ana {t:Nat→V} {l:List Qa} {n a k:Nat} {τ:Nat→Nat} (h7:t 7 = .ptr (τ 0) 0) (h8:t 8 = .hd (τ 2) 0 n) (h9:t 9 = .mp (τ 1)) (h11:t 11 = .ptr (τ 3) 0) (h13:t 13 = .ept (τ 2) a 0) (h24:t 24 = .sl 11 (l.map Qa.v)) (h25:t 25 = V.int l.length) (h26:t 26 = V.int k):∀ q∈mTs l n a k,t q.1 = q.2.ren τ∧q.2.lt 2000:=by
 intro q hq
 simp only [mTs,zF,zM,or_false] at hq
 rcases hq with rfl|rfl|rfl|rfl|rfl|rfl|rfl|rfl
 ·exact ⟨h7,by show 0 < 2000;omega⟩
 ·exact ⟨h8,by show 2 < 2000;omega⟩
 ·exact ⟨h9,by show 1 < 2000;omega⟩
 ·exact ⟨h11,by show 3 < 2000;omega⟩
 ·exact ⟨h13,by show 2 < 2000;omega⟩
 ·exact ⟨h24,trivial⟩
 ·exact ⟨h25,trivial⟩
 ·exact ⟨h26,trivial⟩
theorem ab7 {t:Nat→V} {l:List Qa} {n k:Nat} {τ:Nat→Nat} (h7:t 7 = .ptr (τ 0) 0) (h8:t 8 = .hd (τ 2) 0 n) (h9:t 9 = .mp (τ 1)) (h24:t 24 = .sl 11 (l.map Qa.v)) (h25:t 25 = V.int l.length) (h26:t 26 = V.int k):∀ q∈eTs l n k,t q.1 = q.2.ren τ∧q.2.lt 2000:=by
 intro q hq
 simp only [eTs,zF,zM,or_false] at hq
 rcases hq with rfl|rfl|rfl|rfl|rfl|rfl
 ·exact ⟨h7,by show 0 < 2000;omega⟩
 ·exact ⟨h8,by show 2 < 2000;omega⟩
 ·exact ⟨h9,by show 1 < 2000;omega⟩
 ·exact ⟨h24,trivial⟩
 ·exact ⟨h25,trivial⟩
 ·exact ⟨h26,trivial⟩
theorem aq3 {o:Nat→Option Ob} {f:Qa} {τ:Nat→Nat} {n x3:Nat} {x:List Nat} (hx:x.getD 3 0 = x3) (h:o x3 = some (.box true f.cells)):∀ k y,[Ob.box true f.cells][k]? = some y→∃ z,o (x.getD (3 + k) 0) = some z∧z.weak τ n y:=by
 intro k y hy
 match k,hy with
 | 0,hy =>
   simp only [List.getElem?_cons_zero,zi] at hy
   subst hy
   rw [hx]
   exact ⟨_,h,id,(Q8 _ _ (by simp only [Qa.cells,V.closed,Qd,and_self])).symm,Y9 _ _ (by simp only [Qa.cells,V.closed,Qd,and_self])⟩
def Xj:=qd Proofs.Tryz.f57 [⟨fun _=>false,[4,6,7],.one 0 (.one 1 (.one 2 (.one 3 (.one 5 (.or 4 (.one 6 (.one 7 (.one 8 (.one 9 (.one 10 (.done)))))) (.or 6 (.one 4 (.one 7 (.one 8 (.one 9 (.one 10 (.done)))))) (.done)))))))⟩,⟨fun _=>false,[5,7,8,12],.one 0 (.one 1 (.one 2 (.one 3 (.one 4 (.one 6 (.one 9 (.one 10 (.one 11 (.one 13 (.one 14 (.or 5 (.or 7 (.or 8 (.one 12 (.one 15 (.one 16 (.one 17 (.one 18 (.one 19 (.one 20 (.one 21 (.done))))))))) (.or 12 (.one 8 (.one 15 (.one 16 (.one 17 (.one 18 (.one 19 (.one 20 (.one 21 (.done))))))))) (.done))) (.or 12 (.one 7 (.one 8 (.one 15 (.one 16 (.one 17 (.one 18 (.one 19 (.one 20 (.one 21 (.done)))))))))) (.done))) (.or 7 (.or 5 (.or 8 (.one 12 (.one 15 (.one 16 (.one 17 (.one 18 (.one 19 (.one 20 (.one 21 (.done))))))))) (.or 12 (.one 8 (.one 15 (.one 16 (.one 17 (.one 18 (.one 19 (.one 20 (.one 21 (.done))))))))) (.done))) (.or 12 (.one 5 (.one 8 (.one 15 (.one 16 (.one 17 (.one 18 (.one 19 (.one 20 (.one 21 (.done)))))))))) (.done))) (.or 12 (.or 5 (.one 7 (.one 8 (.one 15 (.one 16 (.one 17 (.one 18 (.one 19 (.one 20 (.one 21 (.done)))))))))) (.or 7 (.one 5 (.one 8 (.one 15 (.one 16 (.one 17 (.one 18 (.one 19 (.one 20 (.one 21 (.done)))))))))) (.done))) (.done))))))))))))))⟩]
def WL (Γ:Env) (f:Nat):Prop:=∀ (l:List Qa) (gap:Int) (hl:l.length < 2 ^ 40) (hz:∀ x∈l,x.Sz),EvC Γ f [.sl 11 (l.map Qa.v),V.int gap] (aog l gap)
attribute [local go_sem] eSt eTs mTs in
theorem wK {Γ:Env} {f:Nat} (h:Has Γ.P f 86 Xj.1.1.ac Xj.1.2) (z0:US Γ 83) (z2:Uf Γ 84) (z3:Yh Γ 85) (z4:YX Γ 86) (z5:XC Γ 87):WL Γ f:=by
 intro l gap hl hz
 refine Jy h zsi (by unfold aog;split<;>simp only [V.closed,Qd,and_self]) fun C hC hm=>?_
 subst hC
 simp only [Xj,qd,DC.ac]
 have hm:C.m = 0:=by simpa using hm
 obtain ⟨sX,sI,sW⟩:=z4
 obtain ⟨iX,iI,iW⟩:=z5
 have p0:=(z0 l gap hl hz).b
 by_cases hE:J8 l gap = 0
 rotate_left
 ·rw [aog,if_neg hE]
  have e01:(J8 l gap != 0) = true:=by simpa using hE
  generalize J8 l gap = er at *
  (have zx:=e01);refine zgo ?_;repeat' first|exact zt|apply zan|intro hc
  all_goals exact zr
 obtain ⟨hl4,hd⟩:=apl hE
 rw [hE] at p0
 have p1:=z2 l gap hl4 hd
 have hp:=aag l gap
 have hent:Jv l gap = YZ l (aah l gap) l.length:=rfl
 rw [aog,if_pos hE,hent]
 generalize aah l gap = p at *
 have e00:((0:Int) != 0) = false:=by decide
 (have zx:=e00);refine zgo ?_;repeat' first|exact zt|apply zan|intro hc
 have t0:abZ [10000,13000,12000] id 0 = 10000:=rfl
 have t1:abZ [10000,13000,12000] id 1 = 13000:=rfl
 have t2:abZ [10000,13000,12000] id 2 = 12000:=rfl
 refine Qo (ι:=Nat) (fun k=>k≤l.length) (fun k=>eSt l p (YZ l p k) k) (fun k=>l.length - k) 0 (zH _) (abZ [10000,13000,12000] id) ?_ fun k hk K' hL=>?_
 ·rw [hm]
  refine ajR (by simp [YZ]) [10000,13000,12000] id [] rfl ?_ rfl rfl (.inr ⟨rfl,rfl⟩) (fun k y h=>by simp at h) (fun j=>by simp [YZ]) (fun j e h=>by simp [YZ] at h) (by simp) (fun q hq=>by simp [YZ] at hq) (fun a b ha=>by simp [YZ] at ha)
  simp only [go_sem,zwl,eTs,YZ,t0,t1,t2,zb]
 clear t0 t1 t2
 have hI:=yb (l:=l) hp k hk
 rcases hdr:l.drop k with _|⟨f,r⟩
 ·have hkl:=Qs hdr
  have e1:decide ((k:Int) < (l.length:Int)) = false:=by simp;omega
  obtain rfl:k = l.length:=by omega
  generalize YZ l p l.length = es at *
  (have zx:=e1);refine zgo ?_;repeat' first|exact zt|apply zan|intro hc
  all_goals
   refine Qk _ rfl ⟨?_,rfl,trivial⟩
   show conv _ _ _ (.hd 2 0 es.length) (.sl 4 (es.map QT.v))
   rw [ajB]
   refine ⟨trivial,by simp,.inr ⟨true,U9 3 es,rfl,?_,anN es,ab4 es⟩⟩
   rw [kK,zh (by rw [Vh];exact zj _)]
   exact aj6 es 3 fun q y hq=>(xN p _ _ [] es q).trans hq
 obtain ⟨hk',hget,hr⟩:=Ql hdr
 have hw:=Qf (k:=k) (by omega)
 have e1:decide ((k:Int) < (l.length:Int)) = true:=by simp;omega
 have hsu:=ad8 (p:=p) hget
 generalize YZ l p k = es at *
 have n1:=z3 p k hp (by omega)
 by_cases hk0:Qp p k = k
 ·rw [hk0] at n1
  have e2:((k:Int) == (k:Int)) = true:=by simp
  have g0:(eO p (es.map QT.num) (List.range es.length) [] es)[0]? = some (.box true (Qt p)):=rfl
  have g1:(eO p (es.map QT.num) (List.range es.length) [] es)[1]? = some (.map (Qt (es.map QT.num)) (Qt (List.range es.length)) 0):=rfl
  have g2:(eO p (es.map QT.num) (List.range es.length) [] es)[2]? = some (.obuf true 4 (U9 3 es)):=rfl
  have hnum:∀ x∈es.map QT.num,x≠k:=fun x hx=>by
   obtain ⟨e,he,rfl⟩:=zE.1 hx
   have:=(hI.sz e he).num
   omega
  have f1:=wu k (es.map QT.num) 0
  rw [ahJ hnum] at f1
  have f2:=wu k (es.map QT.num++[k]) 0
  rw [aga hnum,kC,zb] at f2
  have f3:=ad7 (k:Int)
  have f4:=qk (es.map QT.num) k
  have f5:=qk (List.range es.length) es.length
  have f6:(Qt (List.range es.length++[es.length]))[es.length]? = some (V.int (es.length:Nat)):=YE (by simp)
  have f7:List.take es.length (U9 3 es) = U9 3 es:=zh (by rw [Vh];exact zj _)
  have f8:=Vh es 3
  have hel:=hI.len
  repeat' (first|(refine zsk ?_;intro K' hK)|refine zsp ?_|(refine zsc ?_ ?_<;>intro hc<;>first|exact znh|try simp only [znz] at hc)|simp (maxSteps:=1000000) only [go_sem,eSt,eTs,e1,e2,g0,g1,g2,f1,f2,f3,f4,f5,f6,f7,f8,Int.toNat_natCast,zf,hget,Qa.v,Qa.cells]|(refine hK _ ?_;clear hK K')|apply zan|(apply UA;(focus exact rfl);(focus first|exact n1|exact (z3 _ _ zsd zsd));(focus exact rfl);(focus exact rfl))|(apply jy;(focus first|exact (z2 _ _ zsd zsd)))|(apply QF;(focus first|exact (z0 _ _ zsd zsd).b))|exact zsq|fail)
  refine akR (ι:=List QT×Nat×QT) (atx l p k f) (fun q=>mSt l p q.1 f q.2.1 k) (fun s=>s.keep [7,8,9,11,13,24,25,26]) (fun K2 hK2=>?_) (fun q hq s' τ hwk=>?_)
  ·have f9:=sW f.host
   have f10:(U9 3 es++[V.agg [V.int k,aa1,aa1,aa1]])[es.length]? = some (V.agg [V.int k,aa1,aa1,aa1]):=by
    rw [zY (by rw [f8];exact zj _),f8,kH];rfl
   have f13:∀ v:V,((U9 3 es++[V.agg [V.int k,aa1,aa1,aa1]]).set es.length v)[es.length]? = some v:=fun v=>by rw [ka];simp [f8]
   have f14:∀ j v,((U9 3 es++[V.agg [V.int k,aa1,aa1,aa1]]).set es.length v)[j]? = if j = es.length then some v else (U9 3 es)[j]?:=fun j v=>by
    rw [ka]
    by_cases hj:es.length = j
    ·subst hj;simp [f8]
    ·rw [if_neg hj,if_neg (fun e=>hj e.symm)]
     by_cases hj2:j < es.length
     ·rw [zW (by rw [f8];exact hj2)]
     ·rw [zX (by simp [f8];omega),zX (by rw [f8];omega)]
   generalize U9 3 es++[V.agg [V.int k,aa1,aa1,aa1]] = L at *
   have f15:∀ v w:V,(L.set es.length v).set es.length w = L.set es.length w:=fun v w=>List.set_set ..
   repeat' (first|(refine zsk ?_;intro K' hK)|(refine zrg ?_;intro K' hK)|refine zsp ?_|(refine zsc ?_ ?_<;>intro hc<;>first|exact znh|try simp only [znz] at hc)|simp (maxSteps:=1000000) only [go_sem,f8,f10,f13,f15,Int.toNat_natCast]|(refine hK _ ?_;clear hK K')|apply zan|(apply UA;(focus exact rfl);(focus first|exact (z3 _ _ zsd zsd));(focus exact rfl);(focus exact rfl))|(apply WH;(focus exact rfl);(focus exact zrd);(focus exact zrd);(focus first|exact (z3 _ _ zsd zsd));(focus exact rfl);(focus exact rfl);(focus exact zrd))|(apply jy;(focus first|exact (z2 _ _ zsd zsd)))|((first|apply acf|apply xQ);(focus first|exact f9))|(apply Ki;(focus first|exact (z2 _ _ zsd zsd));(focus exact zrd))|((first|apply QF|apply QC);(focus first|exact (z0 _ _ zsd zsd).b))|exact zsq|fail)
   all_goals
    refine hK2 _ (es++[Q1 k f ⟨k,[],[],[]⟩],es.length,Q1 k f ⟨k,[],[],[]⟩) (abZ [0,1,25000,6000] (nmS 3 es.length 41000 2 48000)) ⟨?_,?_,?_,?_⟩ ?_
    ·simp only;rw [zY (zj _),kH];rfl
    ·simp only;rw [hsu,agC,if_pos hk0,ZP _ _ (zj _),kH];rfl
    ·simp only [zq,List.length_singleton];omega
    ·simp only [Q1,List.length_nil];omega
    rw [hm]
    refine adA (es0:=es++[⟨k,[],[],[]⟩]) (e1:=Q1 k f ⟨k,[],[],[]⟩) (els:=L.set es.length (V.agg [V.int k,V.hd 41000 0 1,aa1,V.hd 48000 0 1])) [0,1,25000,6000] ?_ rfl (by simp) (by simp;omega) (ana rfl (by rw [zq];rfl) rfl rfl rfl rfl rfl rfl) (by simp) rfl ?_ rfl (aq3 rfl rfl) (fun j=>?_) (fun q y hq hq3 hy=>?_) ?_ ⟨_,rfl,fun hne=>(hne rfl).elim⟩ rfl (by simp) (fun q hq=>?_) (by simp) (by omega) ?_ ?_ ?_
    ·simp only;rw [ZP _ _ (zj _),kH];rfl
    ·rw [km,zq,List.length_singleton,ZB];rfl
    ·rw [f14]
     by_cases hj:j = es.length
     ·rw [if_pos hj,if_pos hj]
      simp only [Q1,ac1,mhd];rfl
     ·rw [if_neg hj,if_neg hj,VG,VG]
      by_cases hj2:j < es.length
      ·rw [zW hj2]
      ·rw [zX (by omega),zX (by simp;omega)]
    ·have hj:q / 3 < es.length:=by simp only [zq,List.length_singleton] at hq;omega
     simp only [St.keep,upd]
     repeat rw [if_neg (by omega)]
     rw [show 3 + q = 3 + ([]:List Ob).length + q from rfl,xN]
     rw [← hy,ajX,zW (by rw [wV];omega)]
    ·simp only [Q1,ac1];rfl
    ·simp only [zF,zM,or_false,zq,List.length_singleton] at hq ⊢;omega
    ·right;right;simp;omega
    ·right;left;omega
    ·right;right;simp;omega
  ·obtain ⟨es2,a2,e2⟩:=q
   obtain ⟨q1,q2,q3,q4⟩:=hq
   simp only at q1 q2 q3 q4 hwk ⊢
   refine ac4 hwk ?_
   clear hwk
   have q5:=(zn.1 q1).1
   have g0:(eO p (es2.map QT.num) (List.range es2.length) [.box true f.cells] es2)[0]? = some (.box true (Qt p)):=rfl
   have g1:(eO p (es2.map QT.num) (List.range es2.length) [.box true f.cells] es2)[1]? = some (.map (Qt (es2.map QT.num)) (Qt (List.range es2.length)) 0):=rfl
   have g2:(eO p (es2.map QT.num) (List.range es2.length) [.box true f.cells] es2)[2]? = some (.obuf true 4 (U9 4 es2)):=rfl
   have g3:(eO p (es2.map QT.num) (List.range es2.length) [.box true f.cells] es2)[3]? = some (.box true f.cells):=rfl
   simp only [mSt]
   generalize hEO:eO p (es2.map QT.num) (List.range es2.length) [.box true f.cells] es2 = EO at g0 g1 g2 g3 ⊢
   simp only [Qa.cells] at g3
   have hrow:∀ q y,(abY es2)[q]? = some y→EO[4 + q]? = some y:=fun q y h=>by
    rw [← hEO,show 4 + q = 3 + [Ob.box true f.cells].length + q from rfl,xN];exact h
   have wEO:ZW (eO p (es2.map QT.num) (List.range es2.length) [.box true f.cells] es2 = EO):=⟨hEO⟩
   clear hEO
   by_cases hm0:f.mach = 0
   ·have e5:(f.mach != 0) = false:=by simpa using hm0
    (have zx:=za g0 (za g1 (za g2 (za g3 (za e5 hw)))));refine zgo ?_;repeat' first|exact zt|apply zan|intro hc
    all_goals
     refine hL _ (k + 1) (abZ [0,1,2] (nmS 4 a2 (4 + 3 * a2) (4 + 3 * a2 + 1) (4 + 3 * a2 + 2))) (by omega) (by omega) ?_
     rw [hm,← q2]
     refine adA (N:=4) (es0:=es2) (e1:=wO f e2) (els:=U9 4 es2) [0,1,2] rfl rfl q5 (by omega) (ab7 rfl (by rw [zU];rfl) rfl rfl rfl rfl) (by simp) ?_ ?_ ?_ (fun k y h=>by simp at h) (fun j=>?_) (fun q y hq hq3 hy=>?_) ?_ ⟨mob e2.machs,hrow _ _ (by rw [VF,q1];rfl),fun hne=>by rw [wO,if_pos hm0] at hne ⊢;rw [mob,if_neg hne]⟩ ?_ (by simp) (fun q hq=>?_) ?_ ?_ ?_ ?_ ?_
     ·exact g0
     ·rw [jB (e1:=wO f e2) q1 rfl,zU];exact g1
     ·first|exact g2|rfl
     ·rw [VG]
      by_cases hj:j = a2
      ·rw [if_pos hj,hj,q1];simp only [Option.map_some,QT.own,wO,if_pos hm0]
      ·rw [if_neg hj]
     ·exact hrow q y hy
     ·exact hrow _ _ (by rw [Xp,q1];rfl)
     ·exact hrow _ _ (by rw [Xo,q1];rfl)
     ·simp only [zF,zM,or_false] at hq ⊢;omega
     ·simp only [zF,zM,or_false];omega
     ·omega
     ·omega
     ·omega
     ·omega
   ·have e5:(f.mach != 0) = true:=by simpa using hm0
    have f8:=Vh es2 4
    have f13:∀ v:V,((U9 4 es2).set a2 v)[a2]? = some v:=fun v=>by rw [ka,if_pos rfl,if_pos (by rw [f8];exact q5)]
    have f14:∀ j (v:V),((U9 4 es2).set a2 v)[j]? = if j = a2 then some v else (U9 4 es2)[j]?:=fun j v=>by
     rw [ka]
     by_cases hj:a2 = j
     ·subst hj;rw [if_pos rfl,if_pos (by rw [f8];exact q5),if_pos rfl]
     ·rw [if_neg hj,if_neg (fun e=>hj e.symm)]
    by_cases hne2:e2.machs = []
    ·have f10:(U9 4 es2)[a2]? = some (.agg [V.int e2.num,.hd (4 + 3 * a2) 0 e2.hosts.length,aa1,.hd (4 + 3 * a2 + 2) 0 e2.finds.length]):=by rw [VG,q1];simp only [Option.map_some,QT.own,mhd,if_pos hne2]
     have f9:=iW f.mach
     have hins:acx ltJ e2.machs f.mach = [f.mach]:=by rw [hne2,ac1]
     have hne3:¬ ([f.mach]:List Int) = []:=by simp
     (have zx:=za g0 (za g1 (za g2 (za g3 (za e5 (za hw (za f10 f13)))))));refine zgo ?_;repeat' first|exact zt|apply zan|intro hc
     all_goals
      refine hL _ (k + 1) (abZ [0,1,2] (nmS 4 a2 (4 + 3 * a2) 12000 (4 + 3 * a2 + 2))) (by omega) (by omega) ?_
      rw [hm,← q2]
      refine adA (N:=4) (es0:=es2) (e1:=wO f e2) (els:=(U9 4 es2).set a2 (.agg [V.int e2.num,.hd (4 + 3 * a2) 0 e2.hosts.length,.hd 12000 0 1,.hd (4 + 3 * a2 + 2) 0 e2.finds.length])) [0,1,2] rfl rfl q5 (by omega) (ab7 rfl (by rw [zU];rfl) rfl rfl rfl rfl) (by simp) ?_ ?_ ?_ (fun k y h=>by simp at h) (fun j=>?_) (fun q y hq hq3 hy=>?_) ?_ ⟨_,rfl,fun _=>by simp only [wO,if_neg hm0,hins];rfl⟩ ?_ (by simp) (fun q hq=>?_) ?_ ?_ ?_ ?_ ?_
      ·simp only [zS,zV,upd,Nat.reduceEqDiff,if_false,if_true];first|done|exact g0
      ·rw [jB (e1:=wO f e2) q1 rfl,zU];simp only [zS,zV,upd,Nat.reduceEqDiff,if_false,if_true];first|done|exact g1
      ·simp only [zS,zV,upd,Nat.reduceEqDiff,if_false,if_true];first|done|rfl
      ·rw [f14]
       by_cases hj:j = a2
       ·rw [if_pos hj,if_pos hj];simp only [wO,if_neg hm0,hins,mhd];first|rfl|(rw [if_neg hne2];done)|(rw [if_neg hne3];done)
       ·rw [if_neg hj,if_neg hj]
      ·simp only [upd];(repeat rw [if_neg (by omega)]);exact hrow q y hy
      ·simp only [upd];(repeat rw [if_neg (by omega)]);exact hrow _ _ (by rw [Xp,q1];rfl)
      ·simp only [upd];(repeat rw [if_neg (by omega)]);exact hrow _ _ (by rw [Xo,q1];rfl)
      ·simp only [zF,zM,or_false] at hq ⊢;omega
      ·simp only [zF,zM,or_false];omega
      ·omega
      ·omega
      ·omega
      ·omega
    ·have f10:(U9 4 es2)[a2]? = some (.agg [V.int e2.num,.hd (4 + 3 * a2) 0 e2.hosts.length,.hd (4 + 3 * a2 + 1) 0 e2.machs.length,.hd (4 + 3 * a2 + 2) 0 e2.finds.length]):=by rw [VG,q1];simp only [Option.map_some,QT.own,mhd,if_neg hne2]
     have gM:EO[4 + 3 * a2 + 1]? = some (.buf true 1 (e2.machs.map V.int)):=by
      rw [show 4 + 3 * a2 + 1 = 4 + (3 * a2 + 1) by omega]
      exact hrow _ _ (by rw [VF,q1];simp only [Option.map_some,mob,if_neg hne2])
     have hml:0 < e2.machs.length:=Zs.2 hne2
     obtain ⟨nM,hnM⟩:∃ n,n = 4 + 3 * a2 + 1:=⟨_,rfl⟩
     rw [← hnM] at f10 gM
     have hM2:nM < 2000:=by omega
     have hM3:3≤nM:=by omega
     have u1:∀ q,(nM = q + 2000) = False:=fun q=>eq_false (by omega)
     have u3:∀ q,(q + 2000 = nM) = False:=fun q=>eq_false (by omega)
     have u5:(nM = 2) = False:=eq_false (by omega)
     have u6:(2 = nM) = False:=eq_false (by omega)
     have u7:(0 = nM) = False:=eq_false (by omega)
     have u8:(1 = nM) = False:=eq_false (by omega)
     have v1:∀ q,decide (nM < q + 2000) = true:=fun q=>zo (by omega)
     have wM:ZW (nM = 4 + 3 * a2 + 1):=⟨hnM⟩
     clear hnM
     rcases hfo:J0 e2.machs (bsI ltJ e2.machs f.mach) f.mach with _|_
     ·have f9:=iI e2.machs f.mach hml (by omega) hfo
      obtain ⟨hh,hins⟩:∃ hh,acx ltJ e2.machs f.mach = hh:=⟨_,rfl⟩
      have hne3:¬ hh = []:=by
       have:=(abk (lt:=ltJ) e2.machs f.mach).2
       rw [hins] at this
       exact Zs.1 this
      rw [hins] at f9
      have hlm:(List.map V.int hh).length = hh.length:=zb _
      repeat' (first|(refine zsk ?_;intro K' hK)|(refine zrg ?_;intro K' hK)|refine zsp ?_|(refine zsc ?_ ?_<;>intro hc<;>first|exact znh|try simp only [znz] at hc)|simp (maxSteps:=1000000) only [go_sem,mTs,g0,g1,g2,g3,e5,hw,f10,f13,hlm,gM,v1,u1,u3,u5,u6,Int.toNat_natCast]|(refine hK _ ?_;clear hK K')|apply zan|(apply aiu;(focus exact rfl);(focus first|exact f9);(focus exact rfl);(focus exact rfl);(focus (first|exact rfl|(simp;done))))|(apply aen;(focus exact rfl);(focus exact rfl);(focus first|exact f9);(focus exact rfl);(focus (first|exact rfl|(simp;done)));(focus (first|exact rfl|(simp;done))))|(apply ajK;(focus first|exact rfl|(simp only [upd,if_false, *];exact rfl));(focus first|exact rfl|decide|(simp [rA,rW];done)|(simp [rA,rW];omega)|omega);(focus first|exact rfl|decide|(simp [rA,rW];done)|(simp [rA,rW];omega)|omega);(focus first|exact f9);(focus exact rfl);(focus first|exact rfl|decide|(simp [rA,rW];done)|(simp [rA,rW];omega)|omega);(focus (first|exact rfl|(simp;done)));(focus exact rfl))|(apply UA;(focus exact rfl);(focus first|exact (z3 _ _ zsd zsd));(focus exact rfl);(focus exact rfl))|(apply WH;(focus exact rfl);(focus exact zrd);(focus exact zrd);(focus first|exact (z3 _ _ zsd zsd));(focus exact rfl);(focus exact rfl);(focus exact zrd))|(apply jy;(focus first|exact (z2 _ _ zsd zsd)))|(apply Ki;(focus first|exact (z2 _ _ zsd zsd));(focus exact zrd))|((first|apply QF|apply QC);(focus first|exact (z0 _ _ zsd zsd).b))|exact zsq|fail)
      all_goals
       have wM':=wM.h
       refine hL _ (k + 1) (abZ [0,1,2] (nmS 4 a2 (4 + 3 * a2) 12000 (4 + 3 * a2 + 2))) (by omega) (by omega) ?_
       rw [hm,← q2]
       refine adA (N:=4) (es0:=es2) (e1:=wO f e2) (els:=(U9 4 es2).set a2 (.agg [V.int e2.num,.hd (4 + 3 * a2) 0 e2.hosts.length,.hd 12000 0 hh.length,.hd (4 + 3 * a2 + 2) 0 e2.finds.length])) [0,1,2] rfl rfl q5 (by omega) (ab7 rfl (by rw [zU];rfl) rfl rfl rfl rfl) (by simp) ?_ ?_ ?_ (fun k y h=>by simp at h) (fun j=>?_) (fun q y hq hq3 hy=>?_) ?_ ⟨.buf true 1 (hh.map V.int),by simp only [upd,u3,Nat.reduceEqDiff,if_false,if_true],fun _=>by simp only [wO,if_neg hm0,hins]⟩ ?_ (by simp) (fun q hq=>?_) ?_ ?_ ?_ ?_ ?_
       ·simp only [zS,zV,upd,Nat.reduceEqDiff,if_false,if_true,u6,u7,u8];first|done|exact g0
       ·rw [jB (e1:=wO f e2) q1 rfl,zU];simp only [zS,zV,upd,Nat.reduceEqDiff,if_false,if_true,u6,u7,u8];first|done|exact g1
       ·simp only [zS,zV,upd,Nat.reduceEqDiff,if_false,if_true,u6,u7,u8];first|done|rfl
       ·rw [f14]
        by_cases hj:j = a2
        ·rw [if_pos hj,if_pos hj];simp only [wO,if_neg hm0,hins,mhd];first|rfl|(rw [if_neg hne2];done)|(rw [if_neg hne3];done)
        ·rw [if_neg hj,if_neg hj]
       ·simp only [upd];(repeat rw [if_neg (by omega)]);exact hrow q y hy
       ·simp only [upd];(repeat rw [if_neg (by omega)]);exact hrow _ _ (by rw [Xp,q1];rfl)
       ·simp only [upd];(repeat rw [if_neg (by omega)]);exact hrow _ _ (by rw [Xo,q1];rfl)
       ·simp only [zF,zM,or_false] at hq ⊢;omega
       ·simp only [zF,zM,or_false];omega
       ·omega
       ·omega
       ·omega
       ·omega
     ·have f9:=iX e2.machs f.mach hml (by omega) hfo
      have hins:acx ltJ e2.machs f.mach = e2.machs:=by rw [acx,if_pos hfo]
      repeat' (first|(refine zsk ?_;intro K' hK)|(refine zrg ?_;intro K' hK)|refine zsp ?_|(refine zsc ?_ ?_<;>intro hc<;>first|exact znh|try simp only [znz] at hc)|simp (maxSteps:=1000000) only [go_sem,mTs,g0,g1,g2,g3,e5,hw,f10,f13,gM,v1,u1,u3,u5,u6,Int.toNat_natCast]|(refine hK _ ?_;clear hK K')|apply zan|(apply ace;(focus exact rfl);(focus first|exact f9);(focus exact rfl);(focus exact rfl);(focus (first|exact rfl|(simp;done))))|(apply vN;(focus first|exact rfl|(simp only [upd,if_false, *];exact rfl));(focus first|exact rfl|decide|(simp [rA,rW];done)|(simp [rA,rW];omega)|omega);(focus first|exact rfl|decide|(simp [rA,rW];done)|(simp [rA,rW];omega)|omega);(focus first|exact f9);(focus exact rfl);(focus first|exact rfl|decide|(simp [rA,rW];done)|(simp [rA,rW];omega)|omega);(focus (first|exact rfl|(simp;done)));(focus exact rfl))|(apply UA;(focus exact rfl);(focus first|exact (z3 _ _ zsd zsd));(focus exact rfl);(focus exact rfl))|(apply WH;(focus exact rfl);(focus exact zrd);(focus exact zrd);(focus first|exact (z3 _ _ zsd zsd));(focus exact rfl);(focus exact rfl);(focus exact zrd))|(apply jy;(focus first|exact (z2 _ _ zsd zsd)))|(apply Ki;(focus first|exact (z2 _ _ zsd zsd));(focus exact zrd))|((first|apply QF|apply QC);(focus first|exact (z0 _ _ zsd zsd).b))|exact zsq|fail)
      all_goals
       have wM':=wM.h
       refine hL _ (k + 1) (abZ [0,1,2] (nmS 4 a2 (4 + 3 * a2) nM (4 + 3 * a2 + 2))) (by omega) (by omega) ?_
       rw [hm,← q2]
       refine adA (N:=4) (es0:=es2) (e1:=wO f e2) (els:=(U9 4 es2).set a2 (.agg [V.int e2.num,.hd (4 + 3 * a2) 0 e2.hosts.length,.hd nM 0 e2.machs.length,.hd (4 + 3 * a2 + 2) 0 e2.finds.length])) [0,1,2] rfl rfl q5 (by omega) (ab7 rfl (by rw [zU];rfl) rfl rfl rfl rfl) (by simp) ?_ ?_ ?_ (fun k y h=>by simp at h) (fun j=>?_) (fun q y hq hq3 hy=>?_) ?_ ⟨.buf true 1 (e2.machs.map V.int),by simp only [upd,u5,if_false,if_true,gM],fun _=>by simp only [wO,if_neg hm0,hins]⟩ ?_ (by simp) (fun q hq=>?_) ?_ ?_ ?_ ?_ ?_
       ·simp only [zS,zV,upd,Nat.reduceEqDiff,if_false,if_true,u6,u7,u8];first|done|exact g0
       ·rw [jB (e1:=wO f e2) q1 rfl,zU];simp only [zS,zV,upd,Nat.reduceEqDiff,if_false,if_true,u6,u7,u8];first|done|exact g1
       ·simp only [zS,zV,upd,Nat.reduceEqDiff,if_false,if_true,u6,u7,u8];first|done|rfl
       ·rw [f14]
        by_cases hj:j = a2
        ·rw [if_pos hj,if_pos hj];simp only [wO,if_neg hm0,hins,mhd];first|rfl|(rw [if_neg hne2];done)|(rw [if_neg hne3];done)
        ·rw [if_neg hj,if_neg hj]
       ·simp only [upd];(repeat rw [if_neg (by omega)]);exact hrow q y hy
       ·simp only [upd];(repeat rw [if_neg (by omega)]);exact hrow _ _ (by rw [Xp,q1];rfl)
       ·simp only [upd];(repeat rw [if_neg (by omega)]);exact hrow _ _ (by rw [Xo,q1];rfl)
       ·simp only [zF,zM,or_false] at hq ⊢;omega
       ·simp only [zF,zM,or_false];omega
       ·omega
       ·omega
       ·omega
       ·omega
 ·obtain ⟨a,e,hia,hea,hen⟩:=hI.find hp hk0
  have hal:=(zn.1 hea).1
  have hsz:=hI.sz e (zu hea)
  have hel:=hI.len
  have hrk:=qX hp k
  have e2:(((Qp p k:Nat):Int) == (k:Int)) = false:=by simp;omega
  have g0:(eO p (es.map QT.num) (List.range es.length) [] es)[0]? = some (.box true (Qt p)):=rfl
  have g1:(eO p (es.map QT.num) (List.range es.length) [] es)[1]? = some (.map (Qt (es.map QT.num)) (Qt (List.range es.length)) 0):=rfl
  have g2:(eO p (es.map QT.num) (List.range es.length) [] es)[2]? = some (.obuf true 4 (U9 3 es)):=rfl
  have f1:=wu (Qp p k) (es.map QT.num) 0
  rw [hia] at f1
  have f3:=ad7 ((Qp p k:Nat):Int)
  have f6:(Qt (List.range es.length))[a]? = some (V.int (a:Nat)):=YE (by simp [hal])
  have f8:=Vh es 3
  have hes:YZ l p (k + 1) = es.set a (XE k f e):=by rw [hsu,agC,if_neg hk0,hia];simp only [hea]
  clear hsu
  generalize Qp p k = rt at *
  repeat' (first|(refine zsk ?_;intro K' hK)|refine zsp ?_|(refine zsc ?_ ?_<;>intro hc<;>first|exact znh|try simp only [znz] at hc)|simp (maxSteps:=1000000) only [go_sem,eSt,eTs,e1,e2,g0,g1,g2,f1,f3,f6,f8,Int.toNat_natCast,zf,hget,Qa.v,Qa.cells]|(refine hK _ ?_;clear hK K')|apply zan|(apply UA;(focus exact rfl);(focus first|exact n1|exact (z3 _ _ zsd zsd));(focus exact rfl);(focus exact rfl))|(apply jy;(focus first|exact (z2 _ _ zsd zsd)))|(apply QF;(focus first|exact (z0 _ _ zsd zsd).b))|exact zsq|fail)
  refine akR (ι:=List QT×Nat×QT) (atx l p k f) (fun q=>mSt l p q.1 f q.2.1 k) (fun s=>s.keep [7,8,9,11,13,24,25,26]) (fun K2 hK2=>?_) (fun q hq s' τ hwk=>?_)
  ·have f10:(U9 3 es)[a]? = some (.agg [V.int e.num,.hd (3 + 3 * a) 0 e.hosts.length,mhd (3 + 3 * a + 1) e.machs,.hd (3 + 3 * a + 2) 0 e.finds.length]):=by rw [VG,hea];rfl
   have gH:(eO p (es.map QT.num) (List.range es.length) [] es)[3 + 3 * a]? = some (.buf true 1 (e.hosts.map V.str)):=by
    rw [show 3 + 3 * a = 3 + ([]:List Ob).length + 3 * a from rfl,xN,Xp,hea];rfl
   have gF:(eO p (es.map QT.num) (List.range es.length) [] es)[3 + 3 * a + 2]? = some (.buf true 1 (Qt e.finds)):=by
    rw [show 3 + 3 * a + 2 = 3 + ([]:List Ob).length + (3 * a + 2) by simp;omega,xN,Xo,hea];rfl
   obtain ⟨nH,hnH⟩:∃ n,n = 3 + 3 * a:=⟨_,rfl⟩
   obtain ⟨nF,hnF⟩:∃ n,n = 3 + 3 * a + 2:=⟨_,rfl⟩
   rw [← hnF] at f10 gF
   rw [← hnH] at f10 gH
   have hF2:nF < 2000:=by omega
   have hH2:nH < 2000:=by omega
   have v1:∀ q,decide (nH < q + 2000) = true:=fun q=>zo (by omega)
   have v2:∀ q,decide (nF < q + 2000) = true:=fun q=>zo (by omega)
   have u1:∀ q,(nH = q + 2000) = False:=fun q=>eq_false (by omega)
   have u2:∀ q,(nF = q + 2000) = False:=fun q=>eq_false (by omega)
   have u3:∀ q,(q + 2000 = nH) = False:=fun q=>eq_false (by omega)
   have u4:∀ q,(q + 2000 = nF) = False:=fun q=>eq_false (by omega)
   have u5:(nH = nF) = False:=eq_false (by omega)
   have u6:(nF = nH) = False:=eq_false (by omega)
   have u7:(nH = 0) = False:=eq_false (by omega)
   have u8:(nF = 0) = False:=eq_false (by omega)
   have u11:(nH = 2) = False:=eq_false (by omega)
   have u12:(nF = 2) = False:=eq_false (by omega)
   have u9:(2 = nH) = False:=eq_false (by omega)
   have u10:(2 = nF) = False:=eq_false (by omega)
   have hH3:3≤nH:=by omega
   have hF3:3≤nF:=by omega
   have wH:ZW (nH = 3 + 3 * a):=⟨hnH⟩
   have wF:ZW (nF = 3 + 3 * a + 2):=⟨hnF⟩
   clear hnH hnF
   have f11:List.take e.finds.length (Qt e.finds)++[V.int k] = Qt (e.finds++[k]):=by rw [zh (by rw [Jh];exact zj _),qk]
   have f12:=Jh e.finds
   have z1:e.finds.length≤400:=by have:=hsz.f1;omega
   have w0:(0 = nH) = False:=eq_false (by omega)
   have w1:(0 = nF) = False:=eq_false (by omega)
   have w2:(1 = nH) = False:=eq_false (by omega)
   have w3:(1 = nF) = False:=eq_false (by omega)
   have f13:∀ v:V,((U9 3 es).set a v)[a]? = some v:=fun v=>by rw [ka,if_pos rfl,if_pos (by rw [f8];exact hal)]
   have f14:∀ j (v:V),((U9 3 es).set a v)[j]? = if j = a then some v else (U9 3 es)[j]?:=fun j v=>by
    rw [ka]
    by_cases hj:a = j
    ·subst hj;rw [if_pos rfl,if_pos (by rw [f8];exact hal),if_pos rfl]
    ·rw [if_neg hj,if_neg (fun e=>hj e.symm)]
   have f15:∀ v w:V,((U9 3 es).set a v).set a w = (U9 3 es).set a w:=fun v w=>List.set_set ..
   rcases hfo:J0 e.hosts (bsI Op.bytesLess e.hosts f.host) f.host with _|_
   ·have f9:=sI e.hosts f.host hsz.h0 (by have:=hsz.h1;omega) hfo
    clear sX sI sW iX iI iW hL
    obtain ⟨hh,hins⟩:∃ hh,acx Op.bytesLess e.hosts f.host = hh:=⟨_,rfl⟩
    rw [hins] at f9
    have hlm:(List.map V.str hh).length = hh.length:=zb _
    repeat' (first|(refine zsk ?_;intro K' hK)|(refine zrg ?_;intro K' hK)|refine zsp ?_|(refine zsc ?_ ?_<;>intro hc<;>first|exact znh|try simp only [znz] at hc)|simp (maxSteps:=1000000) only [go_sem,f8,f10,f11,f12,f13,f15,hlm,gH,gF,g2,v1,v2,u1,u2,u3,u4,u5,u6,u7,u8,u9,u10,Int.toNat_natCast]|(refine hK _ ?_;clear hK K')|apply zan|(apply aiu;(focus exact rfl);(focus first|exact f9);(focus exact rfl);(focus exact rfl);(focus (first|exact rfl|(simp;done))))|(apply aen;(focus exact rfl);(focus exact rfl);(focus first|exact f9);(focus exact rfl);(focus (first|exact rfl|(simp;done)));(focus (first|exact rfl|(simp;done))))|(apply ajK;(focus first|exact rfl|(simp only [upd,if_false, *];exact rfl));(focus first|exact rfl|decide|(simp [rA,rW];done)|(simp [rA,rW];omega)|omega);(focus first|exact rfl|decide|(simp [rA,rW];done)|(simp [rA,rW];omega)|omega);(focus first|exact f9);(focus exact rfl);(focus first|exact rfl|decide|(simp [rA,rW];done)|(simp [rA,rW];omega)|omega);(focus (first|exact rfl|(simp;done)));(focus exact rfl))|(apply UA;(focus exact rfl);(focus first|exact (z3 _ _ zsd zsd));(focus exact rfl);(focus exact rfl))|(apply WH;(focus exact rfl);(focus exact zrd);(focus exact zrd);(focus first|exact (z3 _ _ zsd zsd));(focus exact rfl);(focus exact rfl);(focus exact zrd))|(apply jy;(focus first|exact (z2 _ _ zsd zsd)))|(apply Ki;(focus first|exact (z2 _ _ zsd zsd));(focus exact zrd))|((first|apply QF|apply QC);(focus first|exact (z0 _ _ zsd zsd).b))|exact zsq|fail)
    all_goals
     have wH':=wH.h
     have wF':=wF.h
     refine hK2 _ (es.set a (Q1 k f e),a,Q1 k f e) (abZ [0,1,2,6000] (nmS 3 a 30000 (3 + 3 * a + 1) 37000)) ⟨?_,?_,?_,?_⟩ ?_
     ·simp only;rw [ka,if_pos rfl,if_pos hal]
     ·simp only;rw [hes,List.set_set];rfl
     ·simp only [zU];omega
     ·simp only [Q1];have:=hsz.m1;omega
     rw [hm]
     refine adA (es0:=es) (e1:=Q1 k f e) (els:=(U9 3 es).set a (.agg [V.int e.num,.hd 30000 0 hh.length,mhd (nH + 1) e.machs,.hd 37000 0 (e.finds.length + 1)])) [0,1,2,6000] rfl rfl hal (by omega) (ana rfl (by rw [zU];rfl) rfl rfl rfl rfl rfl rfl) (by simp) ?_ ?_ ?_ (aq3 (x3:=6000) rfl ?_) (fun j=>?_) (fun q y hq hq3 hy=>?_) ?_ ⟨mob e.machs,?_,fun hne=>by rw [mob,if_neg (show ¬ e.machs = [] from hne)];rfl⟩ ?_ (by simp) (fun q hq=>?_) ?_ ?_ ?_ ?_ ?_
     ·simp only [zS,St.keep,upd,u7,u8,w0,w1,if_false,if_true,Nat.reduceEqDiff]
     ·rw [jB (e1:=Q1 k f e) hea rfl,zU]
      simp only [zV,zS,St.keep,upd,w2,w3,if_false,if_true,Nat.reduceEqDiff,g1]
     ·simp only [zV,zS,St.keep,upd,u9,u10,if_false,if_true,Nat.reduceEqDiff]
     ·simp only [St.keep,upd,u3,u4,if_false,if_true,Nat.reduceEqDiff];rfl
     ·rw [f14]
      by_cases hj:j = a
      ·rw [if_pos hj,if_pos hj,wH']
       simp only [Q1,hins,zq,List.length_singleton]
      ·rw [if_neg hj,if_neg hj]
     ·simp only [St.keep,upd]
      repeat rw [if_neg (by omega)]
      rw [show 3 + q = 3 + ([]:List Ob).length + q from rfl,xN]
      exact hy
     ·simp only [Q1,hins,St.keep,upd,u1,u3,u4,u5,u6,u11,u12,if_false,if_true,Nat.reduceEqDiff]
     ·simp only [St.keep,upd]
      repeat rw [if_neg (by omega)]
      rw [show 3 + 3 * a + 1 = 3 + ([]:List Ob).length + (3 * a + 1) by simp;omega,xN,VF,hea];rfl
     ·simp only [Q1,St.keep,upd,u3,u4,if_false,if_true,Nat.reduceEqDiff]
     ·simp only [zF,zM,or_false] at hq ⊢;omega
     ·simp only [zF,zM,or_false];omega
     ·omega
     ·omega
     ·omega
     ·omega
   ·have f9:=sX e.hosts f.host hsz.h0 (by have:=hsz.h1;omega) hfo
    clear sX sI sW iX iI iW hL
    have hins:acx Op.bytesLess e.hosts f.host = e.hosts:=by rw [acx,if_pos hfo]
    repeat' (first|(refine zsk ?_;intro K' hK)|(refine zrg ?_;intro K' hK)|refine zsp ?_|(refine zsc ?_ ?_<;>intro hc<;>first|exact znh|try simp only [znz] at hc)|simp (maxSteps:=1000000) only [go_sem,f8,f10,f11,f12,f13,f15,gH,gF,g2,v1,v2,u1,u2,u3,u4,u5,u6,u7,u8,u9,u10,Int.toNat_natCast]|(refine hK _ ?_;clear hK K')|apply zan|(apply ace;(focus exact rfl);(focus first|exact f9);(focus exact rfl);(focus exact rfl);(focus (first|exact rfl|(simp;done))))|(apply vN;(focus first|exact rfl|(simp only [upd,if_false, *];exact rfl));(focus first|exact rfl|decide|(simp [rA,rW];done)|(simp [rA,rW];omega)|omega);(focus first|exact rfl|decide|(simp [rA,rW];done)|(simp [rA,rW];omega)|omega);(focus first|exact f9);(focus exact rfl);(focus first|exact rfl|decide|(simp [rA,rW];done)|(simp [rA,rW];omega)|omega);(focus (first|exact rfl|(simp;done)));(focus exact rfl))|(apply UA;(focus exact rfl);(focus first|exact (z3 _ _ zsd zsd));(focus exact rfl);(focus exact rfl))|(apply WH;(focus exact rfl);(focus exact zrd);(focus exact zrd);(focus first|exact (z3 _ _ zsd zsd));(focus exact rfl);(focus exact rfl);(focus exact zrd))|(apply jy;(focus first|exact (z2 _ _ zsd zsd)))|(apply Ki;(focus first|exact (z2 _ _ zsd zsd));(focus exact zrd))|((first|apply QF|apply QC);(focus first|exact (z0 _ _ zsd zsd).b))|exact zsq|fail)
    all_goals
     have wH':=wH.h
     have wF':=wF.h
     refine hK2 _ (es.set a (Q1 k f e),a,Q1 k f e) (abZ [0,1,2,6000] (nmS 3 a nH (3 + 3 * a + 1) 37000)) ⟨?_,?_,?_,?_⟩ ?_
     ·simp only;rw [ka,if_pos rfl,if_pos hal]
     ·simp only;rw [hes,List.set_set];rfl
     ·simp only [zU];omega
     ·simp only [Q1];have:=hsz.m1;omega
     rw [hm]
     refine adA (es0:=es) (e1:=Q1 k f e) (els:=(U9 3 es).set a (.agg [V.int e.num,.hd nH 0 e.hosts.length,mhd (nH + 1) e.machs,.hd 37000 0 (e.finds.length + 1)])) [0,1,2,6000] rfl rfl hal (by omega) (ana rfl (by rw [zU];rfl) rfl rfl rfl rfl rfl rfl) (by simp) ?_ ?_ ?_ (aq3 (x3:=6000) rfl ?_) (fun j=>?_) (fun q y hq hq3 hy=>?_) ?_ ⟨mob e.machs,?_,fun hne=>by rw [mob,if_neg (show ¬ e.machs = [] from hne)];rfl⟩ ?_ (by simp) (fun q hq=>?_) ?_ ?_ ?_ ?_ ?_
     ·simp only [zS,St.keep,upd,u7,u8,w0,w1,if_false,if_true,Nat.reduceEqDiff]
     ·rw [jB (e1:=Q1 k f e) hea rfl,zU]
      simp only [zV,zS,St.keep,upd,w2,w3,if_false,if_true,Nat.reduceEqDiff,g1]
     ·simp only [zV,zS,St.keep,upd,u9,u10,if_false,if_true,Nat.reduceEqDiff]
     ·simp only [St.keep,upd,u3,u4,if_false,if_true,Nat.reduceEqDiff];rfl
     ·rw [f14]
      by_cases hj:j = a
      ·rw [if_pos hj,if_pos hj,wH']
       simp only [Q1,hins,zq,List.length_singleton]
      ·rw [if_neg hj,if_neg hj]
     ·simp only [St.keep,upd]
      repeat rw [if_neg (by omega)]
      rw [show 3 + q = 3 + ([]:List Ob).length + q from rfl,xN]
      exact hy
     ·simp only [Q1,hins,St.keep,upd,u1,u3,u4,u5,u6,u11,u12,if_false,if_true,Nat.reduceEqDiff]
     ·simp only [St.keep,upd]
      repeat rw [if_neg (by omega)]
      rw [show 3 + 3 * a + 1 = 3 + ([]:List Ob).length + (3 * a + 1) by simp;omega,xN,VF,hea];rfl
     ·simp only [Q1,St.keep,upd,u3,u4,if_false,if_true,Nat.reduceEqDiff]
     ·simp only [zF,zM,or_false] at hq ⊢;omega
     ·simp only [zF,zM,or_false];omega
     ·omega
     ·omega
     ·omega
     ·omega
  ·obtain ⟨es2,a2,e2⟩:=q
   obtain ⟨q1,q2,q3,q4⟩:=hq
   simp only at q1 q2 q3 q4 hwk ⊢
   refine ac4 hwk ?_
   clear hwk
   have q5:=(zn.1 q1).1
   have g0:(eO p (es2.map QT.num) (List.range es2.length) [.box true f.cells] es2)[0]? = some (.box true (Qt p)):=rfl
   have g1:(eO p (es2.map QT.num) (List.range es2.length) [.box true f.cells] es2)[1]? = some (.map (Qt (es2.map QT.num)) (Qt (List.range es2.length)) 0):=rfl
   have g2:(eO p (es2.map QT.num) (List.range es2.length) [.box true f.cells] es2)[2]? = some (.obuf true 4 (U9 4 es2)):=rfl
   have g3:(eO p (es2.map QT.num) (List.range es2.length) [.box true f.cells] es2)[3]? = some (.box true f.cells):=rfl
   simp only [mSt]
   generalize hEO:eO p (es2.map QT.num) (List.range es2.length) [.box true f.cells] es2 = EO at g0 g1 g2 g3 ⊢
   simp only [Qa.cells] at g3
   have hrow:∀ q y,(abY es2)[q]? = some y→EO[4 + q]? = some y:=fun q y h=>by
    rw [← hEO,show 4 + q = 3 + [Ob.box true f.cells].length + q from rfl,xN];exact h
   have wEO:ZW (eO p (es2.map QT.num) (List.range es2.length) [.box true f.cells] es2 = EO):=⟨hEO⟩
   clear hEO
   by_cases hm0:f.mach = 0
   ·have e5:(f.mach != 0) = false:=by simpa using hm0
    (have zx:=za g0 (za g1 (za g2 (za g3 (za e5 hw)))));refine zgo ?_;repeat' first|exact zt|apply zan|intro hc
    all_goals
     refine hL _ (k + 1) (abZ [0,1,2] (nmS 4 a2 (4 + 3 * a2) (4 + 3 * a2 + 1) (4 + 3 * a2 + 2))) (by omega) (by omega) ?_
     rw [hm,← q2]
     refine adA (N:=4) (es0:=es2) (e1:=wO f e2) (els:=U9 4 es2) [0,1,2] rfl rfl q5 (by omega) (ab7 rfl (by rw [zU];rfl) rfl rfl rfl rfl) (by simp) ?_ ?_ ?_ (fun k y h=>by simp at h) (fun j=>?_) (fun q y hq hq3 hy=>?_) ?_ ⟨mob e2.machs,hrow _ _ (by rw [VF,q1];rfl),fun hne=>by rw [wO,if_pos hm0] at hne ⊢;rw [mob,if_neg hne]⟩ ?_ (by simp) (fun q hq=>?_) ?_ ?_ ?_ ?_ ?_
     ·exact g0
     ·rw [jB (e1:=wO f e2) q1 rfl,zU];exact g1
     ·first|exact g2|rfl
     ·rw [VG]
      by_cases hj:j = a2
      ·rw [if_pos hj,hj,q1];simp only [Option.map_some,QT.own,wO,if_pos hm0]
      ·rw [if_neg hj]
     ·exact hrow q y hy
     ·exact hrow _ _ (by rw [Xp,q1];rfl)
     ·exact hrow _ _ (by rw [Xo,q1];rfl)
     ·simp only [zF,zM,or_false] at hq ⊢;omega
     ·simp only [zF,zM,or_false];omega
     ·omega
     ·omega
     ·omega
     ·omega
   ·have e5:(f.mach != 0) = true:=by simpa using hm0
    have f8:=Vh es2 4
    have f13:∀ v:V,((U9 4 es2).set a2 v)[a2]? = some v:=fun v=>by rw [ka,if_pos rfl,if_pos (by rw [f8];exact q5)]
    have f14:∀ j (v:V),((U9 4 es2).set a2 v)[j]? = if j = a2 then some v else (U9 4 es2)[j]?:=fun j v=>by
     rw [ka]
     by_cases hj:a2 = j
     ·subst hj;rw [if_pos rfl,if_pos (by rw [f8];exact q5),if_pos rfl]
     ·rw [if_neg hj,if_neg (fun e=>hj e.symm)]
    by_cases hne2:e2.machs = []
    ·have f10:(U9 4 es2)[a2]? = some (.agg [V.int e2.num,.hd (4 + 3 * a2) 0 e2.hosts.length,aa1,.hd (4 + 3 * a2 + 2) 0 e2.finds.length]):=by rw [VG,q1];simp only [Option.map_some,QT.own,mhd,if_pos hne2]
     have f9:=iW f.mach
     have hins:acx ltJ e2.machs f.mach = [f.mach]:=by rw [hne2,ac1]
     have hne3:¬ ([f.mach]:List Int) = []:=by simp
     (have zx:=za g0 (za g1 (za g2 (za g3 (za e5 (za hw (za f10 f13)))))));refine zgo ?_;repeat' first|exact zt|apply zan|intro hc
     all_goals
      refine hL _ (k + 1) (abZ [0,1,2] (nmS 4 a2 (4 + 3 * a2) 12000 (4 + 3 * a2 + 2))) (by omega) (by omega) ?_
      rw [hm,← q2]
      refine adA (N:=4) (es0:=es2) (e1:=wO f e2) (els:=(U9 4 es2).set a2 (.agg [V.int e2.num,.hd (4 + 3 * a2) 0 e2.hosts.length,.hd 12000 0 1,.hd (4 + 3 * a2 + 2) 0 e2.finds.length])) [0,1,2] rfl rfl q5 (by omega) (ab7 rfl (by rw [zU];rfl) rfl rfl rfl rfl) (by simp) ?_ ?_ ?_ (fun k y h=>by simp at h) (fun j=>?_) (fun q y hq hq3 hy=>?_) ?_ ⟨_,rfl,fun _=>by simp only [wO,if_neg hm0,hins];rfl⟩ ?_ (by simp) (fun q hq=>?_) ?_ ?_ ?_ ?_ ?_
      ·simp only [zS,zV,upd,Nat.reduceEqDiff,if_false,if_true];first|done|exact g0
      ·rw [jB (e1:=wO f e2) q1 rfl,zU];simp only [zS,zV,upd,Nat.reduceEqDiff,if_false,if_true];first|done|exact g1
      ·simp only [zS,zV,upd,Nat.reduceEqDiff,if_false,if_true];first|done|rfl
      ·rw [f14]
       by_cases hj:j = a2
       ·rw [if_pos hj,if_pos hj];simp only [wO,if_neg hm0,hins,mhd];first|rfl|(rw [if_neg hne2];done)|(rw [if_neg hne3];done)
       ·rw [if_neg hj,if_neg hj]
      ·simp only [upd];(repeat rw [if_neg (by omega)]);exact hrow q y hy
      ·simp only [upd];(repeat rw [if_neg (by omega)]);exact hrow _ _ (by rw [Xp,q1];rfl)
      ·simp only [upd];(repeat rw [if_neg (by omega)]);exact hrow _ _ (by rw [Xo,q1];rfl)
      ·simp only [zF,zM,or_false] at hq ⊢;omega
      ·simp only [zF,zM,or_false];omega
      ·omega
      ·omega
      ·omega
      ·omega
    ·have f10:(U9 4 es2)[a2]? = some (.agg [V.int e2.num,.hd (4 + 3 * a2) 0 e2.hosts.length,.hd (4 + 3 * a2 + 1) 0 e2.machs.length,.hd (4 + 3 * a2 + 2) 0 e2.finds.length]):=by rw [VG,q1];simp only [Option.map_some,QT.own,mhd,if_neg hne2]
     have gM:EO[4 + 3 * a2 + 1]? = some (.buf true 1 (e2.machs.map V.int)):=by
      rw [show 4 + 3 * a2 + 1 = 4 + (3 * a2 + 1) by omega]
      exact hrow _ _ (by rw [VF,q1];simp only [Option.map_some,mob,if_neg hne2])
     have hml:0 < e2.machs.length:=Zs.2 hne2
     obtain ⟨nM,hnM⟩:∃ n,n = 4 + 3 * a2 + 1:=⟨_,rfl⟩
     rw [← hnM] at f10 gM
     have hM2:nM < 2000:=by omega
     have hM3:3≤nM:=by omega
     have u1:∀ q,(nM = q + 2000) = False:=fun q=>eq_false (by omega)
     have u3:∀ q,(q + 2000 = nM) = False:=fun q=>eq_false (by omega)
     have u5:(nM = 2) = False:=eq_false (by omega)
     have u6:(2 = nM) = False:=eq_false (by omega)
     have u7:(0 = nM) = False:=eq_false (by omega)
     have u8:(1 = nM) = False:=eq_false (by omega)
     have v1:∀ q,decide (nM < q + 2000) = true:=fun q=>zo (by omega)
     have wM:ZW (nM = 4 + 3 * a2 + 1):=⟨hnM⟩
     clear hnM
     rcases hfo:J0 e2.machs (bsI ltJ e2.machs f.mach) f.mach with _|_
     ·have f9:=iI e2.machs f.mach hml (by omega) hfo
      obtain ⟨hh,hins⟩:∃ hh,acx ltJ e2.machs f.mach = hh:=⟨_,rfl⟩
      have hne3:¬ hh = []:=by
       have:=(abk (lt:=ltJ) e2.machs f.mach).2
       rw [hins] at this
       exact Zs.1 this
      rw [hins] at f9
      have hlm:(List.map V.int hh).length = hh.length:=zb _
      repeat' (first|(refine zsk ?_;intro K' hK)|(refine zrg ?_;intro K' hK)|refine zsp ?_|(refine zsc ?_ ?_<;>intro hc<;>first|exact znh|try simp only [znz] at hc)|simp (maxSteps:=1000000) only [go_sem,mTs,g0,g1,g2,g3,e5,hw,f10,f13,hlm,gM,v1,u1,u3,u5,u6,Int.toNat_natCast]|(refine hK _ ?_;clear hK K')|apply zan|(apply aiu;(focus exact rfl);(focus first|exact f9);(focus exact rfl);(focus exact rfl);(focus (first|exact rfl|(simp;done))))|(apply aen;(focus exact rfl);(focus exact rfl);(focus first|exact f9);(focus exact rfl);(focus (first|exact rfl|(simp;done)));(focus (first|exact rfl|(simp;done))))|(apply ajK;(focus first|exact rfl|(simp only [upd,if_false, *];exact rfl));(focus first|exact rfl|decide|(simp [rA,rW];done)|(simp [rA,rW];omega)|omega);(focus first|exact rfl|decide|(simp [rA,rW];done)|(simp [rA,rW];omega)|omega);(focus first|exact f9);(focus exact rfl);(focus first|exact rfl|decide|(simp [rA,rW];done)|(simp [rA,rW];omega)|omega);(focus (first|exact rfl|(simp;done)));(focus exact rfl))|(apply UA;(focus exact rfl);(focus first|exact (z3 _ _ zsd zsd));(focus exact rfl);(focus exact rfl))|(apply WH;(focus exact rfl);(focus exact zrd);(focus exact zrd);(focus first|exact (z3 _ _ zsd zsd));(focus exact rfl);(focus exact rfl);(focus exact zrd))|(apply jy;(focus first|exact (z2 _ _ zsd zsd)))|(apply Ki;(focus first|exact (z2 _ _ zsd zsd));(focus exact zrd))|((first|apply QF|apply QC);(focus first|exact (z0 _ _ zsd zsd).b))|exact zsq|fail)
      all_goals
       have wM':=wM.h
       refine hL _ (k + 1) (abZ [0,1,2] (nmS 4 a2 (4 + 3 * a2) 12000 (4 + 3 * a2 + 2))) (by omega) (by omega) ?_
       rw [hm,← q2]
       refine adA (N:=4) (es0:=es2) (e1:=wO f e2) (els:=(U9 4 es2).set a2 (.agg [V.int e2.num,.hd (4 + 3 * a2) 0 e2.hosts.length,.hd 12000 0 hh.length,.hd (4 + 3 * a2 + 2) 0 e2.finds.length])) [0,1,2] rfl rfl q5 (by omega) (ab7 rfl (by rw [zU];rfl) rfl rfl rfl rfl) (by simp) ?_ ?_ ?_ (fun k y h=>by simp at h) (fun j=>?_) (fun q y hq hq3 hy=>?_) ?_ ⟨.buf true 1 (hh.map V.int),by simp only [upd,u3,Nat.reduceEqDiff,if_false,if_true],fun _=>by simp only [wO,if_neg hm0,hins]⟩ ?_ (by simp) (fun q hq=>?_) ?_ ?_ ?_ ?_ ?_
       ·simp only [zS,zV,upd,Nat.reduceEqDiff,if_false,if_true,u6,u7,u8];first|done|exact g0
       ·rw [jB (e1:=wO f e2) q1 rfl,zU];simp only [zS,zV,upd,Nat.reduceEqDiff,if_false,if_true,u6,u7,u8];first|done|exact g1
       ·simp only [zS,zV,upd,Nat.reduceEqDiff,if_false,if_true,u6,u7,u8];first|done|rfl
       ·rw [f14]
        by_cases hj:j = a2
        ·rw [if_pos hj,if_pos hj];simp only [wO,if_neg hm0,hins,mhd];first|rfl|(rw [if_neg hne2];done)|(rw [if_neg hne3];done)
        ·rw [if_neg hj,if_neg hj]
       ·simp only [upd];(repeat rw [if_neg (by omega)]);exact hrow q y hy
       ·simp only [upd];(repeat rw [if_neg (by omega)]);exact hrow _ _ (by rw [Xp,q1];rfl)
       ·simp only [upd];(repeat rw [if_neg (by omega)]);exact hrow _ _ (by rw [Xo,q1];rfl)
       ·simp only [zF,zM,or_false] at hq ⊢;omega
       ·simp only [zF,zM,or_false];omega
       ·omega
       ·omega
       ·omega
       ·omega
     ·have f9:=iX e2.machs f.mach hml (by omega) hfo
      have hins:acx ltJ e2.machs f.mach = e2.machs:=by rw [acx,if_pos hfo]
      repeat' (first|(refine zsk ?_;intro K' hK)|(refine zrg ?_;intro K' hK)|refine zsp ?_|(refine zsc ?_ ?_<;>intro hc<;>first|exact znh|try simp only [znz] at hc)|simp (maxSteps:=1000000) only [go_sem,mTs,g0,g1,g2,g3,e5,hw,f10,f13,gM,v1,u1,u3,u5,u6,Int.toNat_natCast]|(refine hK _ ?_;clear hK K')|apply zan|(apply ace;(focus exact rfl);(focus first|exact f9);(focus exact rfl);(focus exact rfl);(focus (first|exact rfl|(simp;done))))|(apply vN;(focus first|exact rfl|(simp only [upd,if_false, *];exact rfl));(focus first|exact rfl|decide|(simp [rA,rW];done)|(simp [rA,rW];omega)|omega);(focus first|exact rfl|decide|(simp [rA,rW];done)|(simp [rA,rW];omega)|omega);(focus first|exact f9);(focus exact rfl);(focus first|exact rfl|decide|(simp [rA,rW];done)|(simp [rA,rW];omega)|omega);(focus (first|exact rfl|(simp;done)));(focus exact rfl))|(apply UA;(focus exact rfl);(focus first|exact (z3 _ _ zsd zsd));(focus exact rfl);(focus exact rfl))|(apply WH;(focus exact rfl);(focus exact zrd);(focus exact zrd);(focus first|exact (z3 _ _ zsd zsd));(focus exact rfl);(focus exact rfl);(focus exact zrd))|(apply jy;(focus first|exact (z2 _ _ zsd zsd)))|(apply Ki;(focus first|exact (z2 _ _ zsd zsd));(focus exact zrd))|((first|apply QF|apply QC);(focus first|exact (z0 _ _ zsd zsd).b))|exact zsq|fail)
      all_goals
       have wM':=wM.h
       refine hL _ (k + 1) (abZ [0,1,2] (nmS 4 a2 (4 + 3 * a2) nM (4 + 3 * a2 + 2))) (by omega) (by omega) ?_
       rw [hm,← q2]
       refine adA (N:=4) (es0:=es2) (e1:=wO f e2) (els:=(U9 4 es2).set a2 (.agg [V.int e2.num,.hd (4 + 3 * a2) 0 e2.hosts.length,.hd nM 0 e2.machs.length,.hd (4 + 3 * a2 + 2) 0 e2.finds.length])) [0,1,2] rfl rfl q5 (by omega) (ab7 rfl (by rw [zU];rfl) rfl rfl rfl rfl) (by simp) ?_ ?_ ?_ (fun k y h=>by simp at h) (fun j=>?_) (fun q y hq hq3 hy=>?_) ?_ ⟨.buf true 1 (e2.machs.map V.int),by simp only [upd,u5,if_false,if_true,gM],fun _=>by simp only [wO,if_neg hm0,hins]⟩ ?_ (by simp) (fun q hq=>?_) ?_ ?_ ?_ ?_ ?_
       ·simp only [zS,zV,upd,Nat.reduceEqDiff,if_false,if_true,u6,u7,u8];first|done|exact g0
       ·rw [jB (e1:=wO f e2) q1 rfl,zU];simp only [zS,zV,upd,Nat.reduceEqDiff,if_false,if_true,u6,u7,u8];first|done|exact g1
       ·simp only [zS,zV,upd,Nat.reduceEqDiff,if_false,if_true,u6,u7,u8];first|done|rfl
       ·rw [f14]
        by_cases hj:j = a2
        ·rw [if_pos hj,if_pos hj];simp only [wO,if_neg hm0,hins,mhd];first|rfl|(rw [if_neg hne2];done)|(rw [if_neg hne3];done)
        ·rw [if_neg hj,if_neg hj]
       ·simp only [upd];(repeat rw [if_neg (by omega)]);exact hrow q y hy
       ·simp only [upd];(repeat rw [if_neg (by omega)]);exact hrow _ _ (by rw [Xp,q1];rfl)
       ·simp only [upd];(repeat rw [if_neg (by omega)]);exact hrow _ _ (by rw [Xo,q1];rfl)
       ·simp only [zF,zM,or_false] at hq ⊢;omega
       ·simp only [zF,zM,or_false];omega
       ·omega
       ·omega
       ·omega
       ·omega
structure Qc where
 ent:Int
 subj:List UInt8
 kind:Int
 alg:Int
 bits:Int
 num:Int
 text:List UInt8
 find:Int
 deriving DecidableEq
def Qc.cells (f:Qc):List V:=[V.int f.ent,V.str f.subj,V.int f.kind,V.int f.alg,V.int f.bits,V.int f.num,V.str f.text,V.int f.find]
def Qc.v (f:Qc):V:=.agg f.cells
structure PPl where
 subj:List UInt8
 text:List UInt8
 kind:Int
 num:Int
 alg:Int
 bits:Int
 deriving DecidableEq
def PPl.cells (p:PPl):List V:=[V.str p.subj,V.str p.text,V.int p.kind,V.int p.num,V.int p.alg,V.int p.bits]
def PPl.v (p:PPl):V:=.agg p.cells
def J6 (f:Qa):PPl :=
 if f.kind = 1∨f.kind = 8 then ⟨f.subj,[],1,0,f.alg,f.bits⟩
 else if f.kind = 2∨f.kind = 6 then ⟨f.subj,[],f.kind,f.num,0,0⟩
 else if f.kind = 7 then ⟨f.subj,f.text,f.kind,0,0,0⟩
 else ⟨f.subj,[],f.kind,0,0,0⟩
def af0 (a b:Qc):Int:=Q7 [yp a.subj b.subj,Xf a.kind b.kind,Xf a.alg b.alg,Xf a.bits b.bits,Xf a.num b.num,yp a.text b.text]
def wC:=qd Proofs.Tryz.f90 [⟨fun _=>false,[1],.one 0 (.one 2 (.or 1 (.one 3 (.one 4 (.one 5 (.done)))) (.or 3 (.one 1 (.one 4 (.one 5 (.done)))) (.done))))⟩]
def vT (Γ:Env) (f:Nat):Prop:=∀ (f0:Qa),EvN Γ f [f0.v] ((J6 f0).v)
theorem aju {Γ:Env} {f:Nat} (h:Has Γ.P f 30 wC.1.1.ac wC.1.2) :vT Γ f:=by
 intro f0
 refine Qb h zsi (by unfold J6;(repeat' split)<;>simp only [PPl.v,PPl.cells,V.closed,Qd,V.noSl,WP,and_self]) (by unfold J6;(repeat' split)<;>simp only [PPl.v,PPl.cells,V.closed,Qd,V.noSl,WP,and_self]) fun C hC hm=>?_
 subst hC
 simp only [wC,qd,DC.ac]
 obtain ⟨src,host,mach,day,conf,kind,subj,alg,bits,num,text⟩:=f0
 simp only [J6,Qa.v,Qa.cells,PPl.v,PPl.cells]
 have E:∀ n:Int,kind≠n→(kind == n) = false:=fun n h=>by simpa using h
 by_cases k1:kind = 1
 ·subst k1
  rw [if_pos (.inl rfl)]
  exact zg
 by_cases k8:kind = 8
 ·subst k8
  rw [if_pos (.inr rfl)]
  exact zg
 rw [if_neg (by simp [k1,k8])]
 by_cases k2:kind = 2
 ·subst k2
  rw [if_pos (.inl rfl)]
  exact zg
 by_cases k6:kind = 6
 ·subst k6
  rw [if_pos (.inr rfl)]
  exact zg
 rw [if_neg (by simp [k2,k6])]
 have e1:=E 1 k1
 have e8:=E 8 k8
 have e2:=E 2 k2
 have e6:=E 6 k6
 by_cases k7:kind = 7
 ·subst k7
  rw [if_pos rfl]
  exact zg
 rw [if_neg k7]
 have e7:=E 7 k7
 (have zx:=za e1 (za e8 (za e2 (za e6 e7))));exact zg
def V3:=qd Proofs.Tryz.f92 [zhn 37]
def Kw (Γ:Env) (f:Nat):Prop:=∀ (a b:Qc),EvN Γ f [a.v,b.v] (V.int (af0 a b))
theorem acS {Γ:Env} {f:Nat} (h:Has Γ.P f 41 V3.1.1.ac V3.1.2) (z0:Ub Γ 119) (z1:YT Γ 120) (z2:K9 Γ 118):Kw Γ f:=by
 intro a b
 refine Qb h zsi zcl zcl fun C hC hm=>?_
 subst hC
 simp only [V3,qd,DC.ac]
 have p1:=(z0 a.subj b.subj).b
 have p2:=(z1 a.kind b.kind).b
 have p3:=(z1 a.alg b.alg).b
 have p4:=(z1 a.bits b.bits).b
 have p5:=(z1 a.num b.num).b
 have p6:=(z0 a.text b.text).b
 have p7:=(z2 [yp a.subj b.subj,Xf a.kind b.kind,Xf a.alg b.alg,Xf a.bits b.bits,Xf a.num b.num,yp a.text b.text] (by simp)).b
 simp only [Qc.v,Qc.cells,af0,zL,zK] at *
 exact zg
theorem atz (p q:PPl):Jp [1,1,0,0,0,0] p.cells q.cells = some (decide (p = q)):=by
 obtain ⟨a1,a2,a3,a4,a5,a6⟩:=p
 obtain ⟨b1,b2,b3,b4,b5,b6⟩:=q
 have hs:∀ x y:List UInt8,((⟨x.toArray⟩:ByteArray) == ⟨y.toArray⟩) = decide (x = y):=fun x y=>by
  rw [kZ,ael];simp
 simp only [PPl.cells,V.str,V.int,Jp,hs,if_true,Option.map_some,PPl.mk.injEq]
 congr 1
 rw [kZ]
 simp
def amc (p:PPl):List PPl→Nat→Option Nat
 | [],_=>none
 | e :: r,i=>if p = e then some i else amc p r (i + 1)
theorem ahY (p:PPl):∀ (ks:List PPl) (i:Nat),ja true [1,1,0,0,0,0] p.v (ks.map PPl.v) i = some (amc p ks i)
 | [],_=>rfl
 | e :: r,i=>by
   have h:qt true [1,1,0,0,0,0] p.v e.v = some (decide (p = e)):=atz p e
   rw [zL,ja,h]
   by_cases hk:p = e
   ·subst hk;simp [amc]
   ·rw [zp hk];simp only [amc,if_neg hk]
    exact ahY p r (i + 1)
theorem apg (p:PPl):qt true [1,1,0,0,0,0] p.v p.v = some true:=by
 have:qt true [1,1,0,0,0,0] p.v p.v = some (decide (p = p)):=atz p p
 rw [this];simp
end Av
end
