/- K26 -/
import Derived.Test.YtjolhibbihejgaaGreatK24
import Derived.Test.YtjolhibbihejgaaGreatK25
import Derived.Test.YtjolhibbihejgaaGreatK12
set_option linter.unusedVariables false
set_option linter.unusedSimpArgs false
noncomputable section
set_option maxRecDepth 10000
set_option maxHeartbeats 4000000
namespace Av
open Go
attribute [local irreducible] AWp UY qH yr awS awC aaT awQ abS Q1 Ub aaE awR Ux awB okR ym ris
section
variable {C:Ctx} {nt:Nat} {s:St} {K:St→Prop} {E:Nat→St→Prop} {R:St→Prop}
theorem alA {x:AC} {ι:Type} (good:ι→Prop) (mid:ι→St) (pre:St→St) (h:∀ K':St→Prop,(∀ s' i τ,good i→akt C.m τ (pre s') (mid i)→K' s')→AWp C nt x s K' E R) (h':∀ i,good i→∀ s' τ,akt C.m τ (pre s') (mid i)→K s'):AWp C nt x s K E R:=h K fun s' i τ g w=>h' i g s' τ w
end
def vR (f:Qc) (e:Jp):Jp:={ e with machs:=if f.mach = 0 then e.machs else acs ltJ e.machs f.mach }
def aus (l:List Qc) (p:List Nat) (k:Nat) (f:Qc) (q:List Jp×Nat×Jp):Prop:=q.1[q.2.1]? = some q.2.2∧q.1.set q.2.1 (vR f q.2.2) = J8 l p (k + 1)∧q.1.length≤400∧q.2.2.machs.length≤400
def nmS (N a H M F q:Nat):Nat:=if q = 3 * a then H else if q = 3 * a + 1 then M else if q = 3 * a + 2 then F else N + q
theorem aeH {s:St} {ts:List (Nat×V)} {p K W:List Nat} {fx:List Ob} {es0 es1:List Jp} {e1:Jp} {N a H M F:Nat} {els:List V} (x:List Nat) (hes:es1 = es0.set a e1) (hx:x.length = 3 + fx.length) (ha:a < es0.length) (hlen:es0.length≤400)
  (ht:∀ q∈ts,s.t q.1 = q.2.ren (adc x (nmS N a H M F))∧q.2.lt 2000) (hfl:fx.length≤1)
  (h0:s.o (x.getD 0 0) = some (.box true (Jc p))) (h1:s.o (x.getD 1 0) = some (.map (Jc K) (Jc W) 0)) (h2:s.o (x.getD 2 0) = some (.obuf true 4 els))
  (hfx:∀ k y,fx[k]? = some y→∃ z,s.o (x.getD (3 + k) 0) = some z∧z.weak (adc x (nmS N a H M F)) 2000 y)
  (hels:∀ j,els[j]? = if j = a then some (.agg [V.int e1.num,.hd H 0 e1.hosts.length,mhd M e1.machs,.hd F 0 e1.finds.length]) else (KG N es0)[j]?)
  (hfar:∀ q y,q < 3 * es0.length→q / 3≠a→(adb es0)[q]? = some y→s.o (N + q) = some y)
  (hH:s.o H = some (.buf true 1 (e1.hosts.map V.str))) (hM:∃ y,s.o M = some y∧(e1.machs≠[]→y = .buf true 1 (e1.machs.map V.int))) (hF:s.o F = some (.buf true 1 (Jc e1.finds)))
  (hn:x.Nodup) (hxn:∀ q,q < 3 * es0.length→N + q ∉ x) (hHx:H ∉ x∧M ∉ x∧F ∉ x) (hd:H≠M∧H≠F∧M≠F)
  (hHN:H = N + 3 * a∨H < N∨N + 3 * es0.length≤H) (hMN:M = N + (3 * a + 1)∨M < N∨N + 3 * es0.length≤M) (hFN:F = N + (3 * a + 2)∨F < N∨N + 3 * es0.length≤F) :
  akt 0 (adc x (nmS N a H M F)) s { t:=K6 ts,o:=fun k=>(eO p K W fx es1)[k]?,n:=2000 }:=by
 subst hes
 have a0:nmS N a H M F (3 * a) = H:=by rw [nmS,if_pos rfl]
 have a1:nmS N a H M F (3 * a + 1) = M:=by rw [nmS,if_neg (by omega),if_pos rfl]
 have a2:nmS N a H M F (3 * a + 2) = F:=by rw [nmS,if_neg (by omega),if_neg (by omega),if_pos rfl]
 have a3:∀ q,q / 3≠a→nmS N a H M F q = N + q:=fun q hq=>by rw [nmS,if_neg (by omega),if_neg (by omega),if_neg (by omega)]
 have b1:∀ q,q / 3 = a→(q = 3 * a∨q = 3 * a + 1∨q = 3 * a + 2):=fun q hq=>by omega
 have gt:∀ j,(es0.set a e1)[j]? = if j = a then some e1 else es0[j]?:=fun j=>by
  rw [ka]
  by_cases hj:a = j
  ·subst hj;rw [if_pos rfl,if_pos ha,if_pos rfl]
  ·rw [if_neg hj,if_neg (fun e=>hj e.symm)]
 refine akD (n:=2000) (by rw [zF];omega) x _ els hx ht h0 h1 (.inl h2) hfx (fun j=>?_) (fun j e he=>?_) hn (fun q hq=>?_) (fun c d hc hd' hcd=>?_)
 ·rw [hels,gt]
  by_cases hj:j = a
  ·subst hj;rw [if_pos rfl,if_pos rfl,a0,a1,a2];rfl
  ·rw [if_neg hj,if_neg hj,Ug,a3 _ (by omega),a3 _ (by omega),a3 _ (by omega)]
   cases es0[j]? with
   | none=>rfl
   | some e=>simp only [Option.map_some,Jp.own,kG]
 ·rw [gt] at he
  by_cases hj:j = a
  ·subst hj
   rw [if_pos rfl] at he;cases he
   rw [a0,a1,a2]
   exact ⟨hH,hM,hF⟩
  ·rw [if_neg hj] at he
   have hjl:=(zj.1 he).1
   rw [a3 _ (by omega),a3 _ (by omega),a3 _ (by omega)]
   refine ⟨hfar _ _ (by omega) (by omega) (by rw [XI,he];rfl),⟨mob e.machs,hfar _ _ (by omega) (by omega) (by rw [Uf,he];rfl),fun hne=>by rw [mob,if_neg hne]⟩,hfar _ _ (by omega) (by omega) (by rw [XH,he];rfl)⟩
 ·rw [zF] at hq
  by_cases hqa:q / 3 = a
  ·rcases b1 q hqa with rfl|rfl|rfl
   ·rw [a0];exact hHx.1
   ·rw [a1];exact hHx.2.1
   ·rw [a2];exact hHx.2.2
  ·rw [a3 q hqa];exact hxn q hq
 ·rw [zF] at hc hd'
  obtain ⟨d1,d2,d3⟩:=hd
  by_cases hca:c / 3 = a<;>by_cases hda:d / 3 = a
  ·rcases b1 c hca with rfl|rfl|rfl<;>rcases b1 d hda with rfl|rfl|rfl<;>simp only [a0,a1,a2] at hcd<;>omega
  ·rw [a3 d hda] at hcd
   rcases b1 c hca with rfl|rfl|rfl<;>simp only [a0,a1,a2] at hcd<;>omega
  ·rw [a3 c hca] at hcd
   rcases b1 d hda with rfl|rfl|rfl<;>simp only [a0,a1,a2] at hcd<;>omega
  ·rw [a3 c hca,a3 d hda] at hcd;omega
def asr (l:List Qc) (gap:Int):V:=if Wg l gap = 0 then .tup [.sl 4 ((Wb l gap).map Jp.v),V.int 0] else .tup [.sl 4 [],V.int (Wg l gap)]
def eTs (l:List Qc) (n k:Nat):List (Nat×V):=[(7,.ptr 0 0),(8,.hd 2 0 n),(9,.mp 1),(24,.sl 11 (l.map Qc.v)),(25,V.int l.length),(26,V.int k)]
def eSt (l:List Qc) (p:List Nat) (es:List Jp) (k:Nat):St:={ t:=K6 (eTs l es.length k),o:=fun a=>(eO p (es.map Jp.num) (List.range es.length) [] es)[a]?,n:=2000 }
def mTs (l:List Qc) (n a k:Nat):List (Nat×V):=[(7,.ptr 0 0),(8,.hd 2 0 n),(9,.mp 1),(11,.ptr 3 0),(13,.ept 2 a 0),(24,.sl 11 (l.map Qc.v)),(25,V.int l.length),(26,V.int k)]
def mSt (l:List Qc) (p:List Nat) (es:List Jp) (f:Qc) (a k:Nat):St:={ t:=K6 (mTs l es.length a k),o:=fun x=>(eO p (es.map Jp.num) (List.range es.length) [.box true f.cells] es)[x]?,n:=2000 }
theorem akQ {o:Nat→Option Ob}:∀ (es:List Jp) (n:Nat),(∀ q y,(adb es)[q]? = some y→o (n + q) = some y)→Qu o [] none (KG n es) (es.map Jp.v)
 | [],_,_=>trivial
 | e :: r,n,h=>by
   have h0:=h 0 _ rfl
   have h1:=h 1 _ rfl
   have h2:=h 2 _ rfl
   refine ⟨⟨rfl,?_,?_,?_,trivial⟩,akQ r (n + 3) fun q y hq=>?_⟩
   ·rw [x6];exact ⟨trivial,by simp,.inl ⟨true,_,h0,by rw [zZ,zi (by simp)]⟩⟩
   ·unfold mhd
    split
    ·rename_i hm;rw [hm];rfl
    ·rename_i hm
     rw [mob,if_neg hm] at h1
     rw [x6];exact ⟨trivial,by simp,.inl ⟨true,_,h1,by rw [zZ,zi (by simp)]⟩⟩
   ·rw [x6];exact ⟨trivial,by simp,.inl ⟨true,_,h2,by rw [zZ,zi (by rw [KE];exact zm _)]⟩⟩
   ·rw [show n + 3 + q = n + (q + 1 + 1 + 1) by omega]
    exact h (q + 1 + 1 + 1) y (by simpa [adb] using hq)
theorem aok:∀ es:List Jp,ntL (es.map Jp.v)
 | []=>trivial
 | e :: r=>⟨by simp [Jp.v],aok r⟩
theorem adi:∀ es:List Jp,Qd (es.map Jp.v)
 | []=>trivial
 | e :: r=>⟨by simp only [Jp.v,V.closed,Qd,and_self],adi r⟩
theorem anU {t:Nat→V} {l:List Qc} {n a k:Nat} {τ:Nat→Nat} (h7:t 7 = .ptr (τ 0) 0) (h8:t 8 = .hd (τ 2) 0 n) (h9:t 9 = .mp (τ 1)) (h11:t 11 = .ptr (τ 3) 0) (h13:t 13 = .ept (τ 2) a 0) (h24:t 24 = .sl 11 (l.map Qc.v)) (h25:t 25 = V.int l.length) (h26:t 26 = V.int k):∀ q∈mTs l n a k,t q.1 = q.2.ren τ∧q.2.lt 2000:=by
 intro q hq
 simp only [mTs,zo,zl,or_false] at hq
 rcases hq with rfl|rfl|rfl|rfl|rfl|rfl|rfl|rfl
 ·exact ⟨h7,by show 0 < 2000;omega⟩
 ·exact ⟨h8,by show 2 < 2000;omega⟩
 ·exact ⟨h9,by show 1 < 2000;omega⟩
 ·exact ⟨h11,by show 3 < 2000;omega⟩
 ·exact ⟨h13,by show 2 < 2000;omega⟩
 ·exact ⟨h24,trivial⟩
 ·exact ⟨h25,trivial⟩
 ·exact ⟨h26,trivial⟩
theorem adj {t:Nat→V} {l:List Qc} {n k:Nat} {τ:Nat→Nat} (h7:t 7 = .ptr (τ 0) 0) (h8:t 8 = .hd (τ 2) 0 n) (h9:t 9 = .mp (τ 1)) (h24:t 24 = .sl 11 (l.map Qc.v)) (h25:t 25 = V.int l.length) (h26:t 26 = V.int k):∀ q∈eTs l n k,t q.1 = q.2.ren τ∧q.2.lt 2000:=by
 intro q hq
 simp only [eTs,zo,zl,or_false] at hq
 rcases hq with rfl|rfl|rfl|rfl|rfl|rfl
 ·exact ⟨h7,by show 0 < 2000;omega⟩
 ·exact ⟨h8,by show 2 < 2000;omega⟩
 ·exact ⟨h9,by show 1 < 2000;omega⟩
 ·exact ⟨h24,trivial⟩
 ·exact ⟨h25,trivial⟩
 ·exact ⟨h26,trivial⟩
theorem arH {o:Nat→Option Ob} {f:Qc} {τ:Nat→Nat} {n x3:Nat} {x:List Nat} (hx:x.getD 3 0 = x3) (h:o x3 = some (.box true f.cells)):∀ k y,[Ob.box true f.cells][k]? = some y→∃ z,o (x.getD (3 + k) 0) = some z∧z.weak τ n y:=by
 intro k y hy
 match k,hy with
 | 0,hy =>
   simp only [List.getElem?_cons_zero,zf] at hy
   subst hy
   rw [hx]
   exact ⟨_,h,id,(QL _ _ (by simp only [Qc.cells,V.closed,Qd,and_self])).symm,JC _ _ (by simp only [Qc.cells,V.closed,Qd,and_self])⟩
def Xv:=qd Proofs.Tryz.f44 [⟨fun _=>false,[4,6,7],.one 0 (.one 1 (.one 2 (.one 3 (.one 5 (.or 4 (.one 6 (.one 7 (.one 8 (.one 9 (.one 10 (.done)))))) (.or 6 (.one 4 (.one 7 (.one 8 (.one 9 (.one 10 (.done)))))) (.done)))))))⟩,⟨fun _=>false,[5,7,8,12],.one 0 (.one 1 (.one 2 (.one 3 (.one 4 (.one 6 (.one 9 (.one 10 (.one 11 (.one 13 (.one 14 (.or 5 (.or 7 (.or 8 (.one 12 (.one 15 (.one 16 (.one 17 (.one 18 (.one 19 (.one 20 (.one 21 (.done))))))))) (.or 12 (.one 8 (.one 15 (.one 16 (.one 17 (.one 18 (.one 19 (.one 20 (.one 21 (.done))))))))) (.done))) (.or 12 (.one 7 (.one 8 (.one 15 (.one 16 (.one 17 (.one 18 (.one 19 (.one 20 (.one 21 (.done)))))))))) (.done))) (.or 7 (.or 5 (.or 8 (.one 12 (.one 15 (.one 16 (.one 17 (.one 18 (.one 19 (.one 20 (.one 21 (.done))))))))) (.or 12 (.one 8 (.one 15 (.one 16 (.one 17 (.one 18 (.one 19 (.one 20 (.one 21 (.done))))))))) (.done))) (.or 12 (.one 5 (.one 8 (.one 15 (.one 16 (.one 17 (.one 18 (.one 19 (.one 20 (.one 21 (.done)))))))))) (.done))) (.or 12 (.or 5 (.one 7 (.one 8 (.one 15 (.one 16 (.one 17 (.one 18 (.one 19 (.one 20 (.one 21 (.done)))))))))) (.or 7 (.one 5 (.one 8 (.one 15 (.one 16 (.one 17 (.one 18 (.one 19 (.one 20 (.one 21 (.done)))))))))) (.done))) (.done))))))))))))))⟩]
def Xa (Γ:Env) (f:Nat):Prop:=∀ (l:List Qc) (gap:Int) (hl:l.length < 2 ^ 40) (hz:∀ x∈l,x.Sz),EvC Γ f [.sl 11 (l.map Qc.v),V.int gap] (asr l gap)
attribute [local go_sem] eSt eTs mTs in
theorem vJ {Γ:Env} {f:Nat} (h:Has Γ.P f 86 Xv.1.1.ac Xv.1.2) (z0:Kh Γ 75) (z2:UD Γ 76) (z3:J3 Γ 77) (z4:YU Γ 78) (z5:XP Γ 79):Xa Γ f:=by
 intro l gap hl hz
 refine Ql h zsi (by unfold asr;split<;>simp only [V.closed,Qd,and_self]) fun C hC hm=>?_
 subst hC
 simp only [Xv,qd,DC.ac]
 have hm:C.m = 0:=by simpa using hm
 obtain ⟨sX,sI,sW⟩:=z4
 obtain ⟨iX,iI,iW⟩:=z5
 have p0:=(z0 l gap hl hz).b
 by_cases hE:Wg l gap = 0
 rotate_left
 ·rw [asr,if_neg hE]
  have e01:(Wg l gap != 0) = true:=by simpa using hE
  generalize Wg l gap = er at *
  (have zx:=e01);refine zgo ?_;repeat' first|exact zt|apply zan|intro hc
  all_goals exact zr
 obtain ⟨hl4,hd⟩:=ap5 hE
 rw [hE] at p0
 have p1:=z2 l gap hl4 hd
 have hp:=ad6 l gap
 have hent:Wb l gap = J8 l (aig l gap) l.length:=rfl
 rw [asr,if_pos hE,hent]
 generalize aig l gap = p at *
 have e00:((0:Int) != 0) = false:=by decide
 (have zx:=e00);refine zgo ?_;repeat' first|exact zt|apply zan|intro hc
 have t0:adc [10000,13000,12000] id 0 = 10000:=rfl
 have t1:adc [10000,13000,12000] id 1 = 13000:=rfl
 have t2:adc [10000,13000,12000] id 2 = 12000:=rfl
 refine Qs (ι:=Nat) (fun k=>k≤l.length) (fun k=>eSt l p (J8 l p k) k) (fun k=>l.length - k) 0 (zA _) (adc [10000,13000,12000] id) ?_ fun k hk K' hL=>?_
 ·rw [hm]
  refine akD (by simp [J8]) [10000,13000,12000] id [] rfl ?_ rfl rfl (.inr ⟨rfl,rfl⟩) (fun k y h=>by simp at h) (fun j=>by simp [J8]) (fun j e h=>by simp [J8] at h) (by simp) (fun q hq=>by simp [J8] at hq) (fun a b ha=>by simp [J8] at ha)
  simp only [go_sem,zwl,eTs,J8,t0,t1,t2,zb]
 clear t0 t1 t2
 have hI:=yx (l:=l) hp k hk
 rcases hdr:l.drop k with _|⟨f,r⟩
 ·have hkl:=Qr hdr
  have e1:decide ((k:Int) < (l.length:Int)) = false:=by simp;omega
  obtain rfl:k = l.length:=by omega
  generalize J8 l p l.length = es at *
  (have zx:=e1);refine zgo ?_;repeat' first|exact zt|apply zan|intro hc
  all_goals
   refine Qi _ rfl ⟨?_,rfl,trivial⟩
   show conv _ _ _ (.hd 2 0 es.length) (.sl 4 (es.map Jp.v))
   rw [x6]
   refine ⟨trivial,by simp,.inr ⟨true,KG 3 es,rfl,?_,aok es,adi es⟩⟩
   rw [zZ,zi (by rw [VI];exact zm _)]
   exact akQ es 3 fun q y hq=>(wz p _ _ [] es q).trans hq
 obtain ⟨hk',hget,hr⟩:=Qk hdr
 have hw:=Qg (k:=k) (by omega)
 have e1:decide ((k:Int) < (l.length:Int)) = true:=by simp;omega
 have hsu:=akb (p:=p) hget
 generalize J8 l p k = es at *
 have n1:=z3 p k hp (by omega)
 by_cases hk0:Xs p k = k
 ·rw [hk0] at n1
  have e2:((k:Int) == (k:Int)) = true:=by simp
  have g0:(eO p (es.map Jp.num) (List.range es.length) [] es)[0]? = some (.box true (Jc p)):=rfl
  have g1:(eO p (es.map Jp.num) (List.range es.length) [] es)[1]? = some (.map (Jc (es.map Jp.num)) (Jc (List.range es.length)) 0):=rfl
  have g2:(eO p (es.map Jp.num) (List.range es.length) [] es)[2]? = some (.obuf true 4 (KG 3 es)):=rfl
  have hnum:∀ x∈es.map Jp.num,x≠k:=fun x hx=>by
   obtain ⟨e,he,rfl⟩:=kO.1 hx
   have:=(hI.sz e he).num
   omega
  have f1:=vr k (es.map Jp.num) 0
  rw [aij hnum] at f1
  have f2:=vr k (es.map Jp.num++[k]) 0
  rw [agV hnum,zT,zb] at f2
  have f3:=ae7 (k:Int)
  have f4:=wd (es.map Jp.num) k
  have f5:=wd (List.range es.length) es.length
  have f6:(Jc (List.range es.length++[es.length]))[es.length]? = some (V.int (es.length:Nat)):=KF (by simp)
  have f7:List.take es.length (KG 3 es) = KG 3 es:=zi (by rw [VI];exact zm _)
  have f8:=VI es 3
  have hel:=hI.len
  repeat' (first|(refine zsk ?_;intro K' hK)|refine zsp ?_|(refine zsc ?_ ?_<;>intro hc<;>first|exact znh|try simp only [znz] at hc)|simp (maxSteps:=1000000) only [go_sem,eSt,eTs,e1,e2,g0,g1,g2,f1,f2,f3,f4,f5,f6,f7,f8,Int.toNat_natCast,zk,hget,Qc.v,Qc.cells]|(refine hK _ ?_;clear hK K')|apply zan|(apply wG;(focus exact rfl);(focus first|exact n1|exact (z3 _ _ zsd zsd));(focus exact rfl);(focus exact rfl))|(apply wD;(focus first|exact (z2 _ _ zsd zsd)))|(apply QJ;(focus first|exact (z0 _ _ zsd zsd).b))|exact zsq|fail)
  refine alA (ι:=List Jp×Nat×Jp) (aus l p k f) (fun q=>mSt l p q.1 f q.2.1 k) (fun s=>s.keep [7,8,9,11,13,24,25,26]) (fun K2 hK2=>?_) (fun q hq s' τ hwk=>?_)
  ·have f9:=sW f.host
   have f10:(KG 3 es++[V.agg [V.int k,jR,jR,jR]])[es.length]? = some (V.agg [V.int k,jR,jR,jR]):=by
    rw [kF (by rw [f8];exact zm _),f8,kX];rfl
   have f13:∀ v:V,((KG 3 es++[V.agg [V.int k,jR,jR,jR]]).set es.length v)[es.length]? = some v:=fun v=>by rw [ka];simp [f8]
   have f14:∀ j v,((KG 3 es++[V.agg [V.int k,jR,jR,jR]]).set es.length v)[j]? = if j = es.length then some v else (KG 3 es)[j]?:=fun j v=>by
    rw [ka]
    by_cases hj:es.length = j
    ·subst hj;simp [f8]
    ·rw [if_neg hj,if_neg (fun e=>hj e.symm)]
     by_cases hj2:j < es.length
     ·rw [kf (by rw [f8];exact hj2)]
     ·rw [zX (by simp [f8];omega),zX (by rw [f8];omega)]
   generalize KG 3 es++[V.agg [V.int k,jR,jR,jR]] = L at *
   have f15:∀ v w:V,(L.set es.length v).set es.length w = L.set es.length w:=fun v w=>List.set_set ..
   repeat' (first|(refine zsk ?_;intro K' hK)|(refine zrg ?_;intro K' hK)|refine zsp ?_|(refine zsc ?_ ?_<;>intro hc<;>first|exact znh|try simp only [znz] at hc)|simp (maxSteps:=1000000) only [go_sem,f8,f10,f13,f15,Int.toNat_natCast]|(refine hK _ ?_;clear hK K')|apply zan|(apply wG;(focus exact rfl);(focus first|exact (z3 _ _ zsd zsd));(focus exact rfl);(focus exact rfl))|(apply xz;(focus exact rfl);(focus exact zrd);(focus exact zrd);(focus first|exact (z3 _ _ zsd zsd));(focus exact rfl);(focus exact rfl);(focus exact zrd))|(apply wD;(focus first|exact (z2 _ _ zsd zsd)))|((first|apply aoR|apply akq);(focus first|exact f9))|(apply xy;(focus first|exact (z2 _ _ zsd zsd));(focus exact zrd))|((first|apply QJ|apply Jn);(focus first|exact (z0 _ _ zsd zsd).b))|exact zsq|fail)
   all_goals
    refine hK2 _ (es++[QX k f ⟨k,[],[],[]⟩],es.length,QX k f ⟨k,[],[],[]⟩) (adc [0,1,25000,6000] (nmS 3 es.length 41000 2 48000)) ⟨?_,?_,?_,?_⟩ ?_
    ·simp only;rw [kF (zm _),kX];rfl
    ·simp only;rw [hsu,afK,if_pos hk0,List.set_append_right _ _ (zm _),kX];rfl
    ·simp only [zn,List.length_singleton];omega
    ·simp only [QX,List.length_nil];omega
    rw [hm]
    refine aeH (es0:=es++[⟨k,[],[],[]⟩]) (e1:=QX k f ⟨k,[],[],[]⟩) (els:=L.set es.length (V.agg [V.int k,V.hd 41000 0 1,jR,V.hd 48000 0 1])) [0,1,25000,6000] ?_ rfl (by simp) (by simp;omega) (anU rfl (by rw [zn];rfl) rfl rfl rfl rfl rfl rfl) (by simp) rfl ?_ rfl (arH rfl rfl) (fun j=>?_) (fun q y hq hq3 hy=>?_) ?_ ⟨_,rfl,fun hne=>(hne rfl).elim⟩ rfl (by simp) (fun q hq=>?_) (by simp) (by omega) ?_ ?_ ?_
    ·simp only;rw [List.set_append_right _ _ (zm _),kX];rfl
    ·rw [kc,zn,List.length_singleton,ZL];rfl
    ·rw [f14]
     by_cases hj:j = es.length
     ·rw [if_pos hj,if_pos hj]
      simp only [QX,ad7,mhd];rfl
     ·rw [if_neg hj,if_neg hj,Ug,Ug]
      by_cases hj2:j < es.length
      ·rw [kf hj2]
      ·rw [zX (by omega),zX (by simp;omega)]
    ·have hj:q / 3 < es.length:=by simp only [zn,List.length_singleton] at hq;omega
     simp only [St.keep,upd]
     repeat rw [if_neg (by omega)]
     rw [show 3 + q = 3 + ([]:List Ob).length + q from rfl,wz]
     rw [← hy,akL,kf (by rw [aac];omega)]
    ·simp only [QX,ad7];rfl
    ·simp only [zo,zl,or_false,zn,List.length_singleton] at hq ⊢;omega
    ·right;right;simp;omega
    ·right;left;omega
    ·right;right;simp;omega
  ·obtain ⟨es2,a2,e2⟩:=q
   obtain ⟨q1,q2,q3,q4⟩:=hq
   simp only at q1 q2 q3 q4 hwk ⊢
   refine aec hwk ?_
   clear hwk
   have q5:=(zj.1 q1).1
   have g0:(eO p (es2.map Jp.num) (List.range es2.length) [.box true f.cells] es2)[0]? = some (.box true (Jc p)):=rfl
   have g1:(eO p (es2.map Jp.num) (List.range es2.length) [.box true f.cells] es2)[1]? = some (.map (Jc (es2.map Jp.num)) (Jc (List.range es2.length)) 0):=rfl
   have g2:(eO p (es2.map Jp.num) (List.range es2.length) [.box true f.cells] es2)[2]? = some (.obuf true 4 (KG 4 es2)):=rfl
   have g3:(eO p (es2.map Jp.num) (List.range es2.length) [.box true f.cells] es2)[3]? = some (.box true f.cells):=rfl
   simp only [mSt]
   generalize hEO:eO p (es2.map Jp.num) (List.range es2.length) [.box true f.cells] es2 = EO at g0 g1 g2 g3 ⊢
   simp only [Qc.cells] at g3
   have hrow:∀ q y,(adb es2)[q]? = some y→EO[4 + q]? = some y:=fun q y h=>by
    rw [← hEO,show 4 + q = 3 + [Ob.box true f.cells].length + q from rfl,wz];exact h
   have wEO:ZW (eO p (es2.map Jp.num) (List.range es2.length) [.box true f.cells] es2 = EO):=⟨hEO⟩
   clear hEO
   by_cases hm0:f.mach = 0
   ·have e5:(f.mach != 0) = false:=by simpa using hm0
    (have zx:=za g0 (za g1 (za g2 (za g3 (za e5 hw)))));refine zgo ?_;repeat' first|exact zt|apply zan|intro hc
    all_goals
     refine hL _ (k + 1) (adc [0,1,2] (nmS 4 a2 (4 + 3 * a2) (4 + 3 * a2 + 1) (4 + 3 * a2 + 2))) (by omega) (by omega) ?_
     rw [hm,← q2]
     refine aeH (N:=4) (es0:=es2) (e1:=vR f e2) (els:=KG 4 es2) [0,1,2] rfl rfl q5 (by omega) (adj rfl (by rw [zF];rfl) rfl rfl rfl rfl) (by simp) ?_ ?_ ?_ (fun k y h=>by simp at h) (fun j=>?_) (fun q y hq hq3 hy=>?_) ?_ ⟨mob e2.machs,hrow _ _ (by rw [Uf,q1];rfl),fun hne=>by rw [vR,if_pos hm0] at hne ⊢;rw [mob,if_neg hne]⟩ ?_ (by simp) (fun q hq=>?_) ?_ ?_ ?_ ?_ ?_
     ·exact g0
     ·rw [jQ (e1:=vR f e2) q1 rfl,zF];exact g1
     ·first|exact g2|rfl
     ·rw [Ug]
      by_cases hj:j = a2
      ·rw [if_pos hj,hj,q1];simp only [Option.map_some,Jp.own,vR,if_pos hm0]
      ·rw [if_neg hj]
     ·exact hrow q y hy
     ·exact hrow _ _ (by rw [XI,q1];rfl)
     ·exact hrow _ _ (by rw [XH,q1];rfl)
     ·simp only [zo,zl,or_false] at hq ⊢;omega
     ·simp only [zo,zl,or_false];omega
     ·omega
     ·omega
     ·omega
     ·omega
   ·have e5:(f.mach != 0) = true:=by simpa using hm0
    have f8:=VI es2 4
    have f13:∀ v:V,((KG 4 es2).set a2 v)[a2]? = some v:=fun v=>by rw [ka,if_pos rfl,if_pos (by rw [f8];exact q5)]
    have f14:∀ j (v:V),((KG 4 es2).set a2 v)[j]? = if j = a2 then some v else (KG 4 es2)[j]?:=fun j v=>by
     rw [ka]
     by_cases hj:a2 = j
     ·subst hj;rw [if_pos rfl,if_pos (by rw [f8];exact q5),if_pos rfl]
     ·rw [if_neg hj,if_neg (fun e=>hj e.symm)]
    by_cases hne2:e2.machs = []
    ·have f10:(KG 4 es2)[a2]? = some (.agg [V.int e2.num,.hd (4 + 3 * a2) 0 e2.hosts.length,jR,.hd (4 + 3 * a2 + 2) 0 e2.finds.length]):=by rw [Ug,q1];simp only [Option.map_some,Jp.own,mhd,if_pos hne2]
     have f9:=iW f.mach
     have hins:acs ltJ e2.machs f.mach = [f.mach]:=by rw [hne2,ad7]
     have hne3:¬ ([f.mach]:List Int) = []:=by simp
     (have zx:=za g0 (za g1 (za g2 (za g3 (za e5 (za hw (za f10 f13)))))));refine zgo ?_;repeat' first|exact zt|apply zan|intro hc
     all_goals
      refine hL _ (k + 1) (adc [0,1,2] (nmS 4 a2 (4 + 3 * a2) 12000 (4 + 3 * a2 + 2))) (by omega) (by omega) ?_
      rw [hm,← q2]
      refine aeH (N:=4) (es0:=es2) (e1:=vR f e2) (els:=(KG 4 es2).set a2 (.agg [V.int e2.num,.hd (4 + 3 * a2) 0 e2.hosts.length,.hd 12000 0 1,.hd (4 + 3 * a2 + 2) 0 e2.finds.length])) [0,1,2] rfl rfl q5 (by omega) (adj rfl (by rw [zF];rfl) rfl rfl rfl rfl) (by simp) ?_ ?_ ?_ (fun k y h=>by simp at h) (fun j=>?_) (fun q y hq hq3 hy=>?_) ?_ ⟨_,rfl,fun _=>by simp only [vR,if_neg hm0,hins];rfl⟩ ?_ (by simp) (fun q hq=>?_) ?_ ?_ ?_ ?_ ?_
      ·simp only [zE,zH,upd,Nat.reduceEqDiff,if_false,if_true];first|done|exact g0
      ·rw [jQ (e1:=vR f e2) q1 rfl,zF];simp only [zE,zH,upd,Nat.reduceEqDiff,if_false,if_true];first|done|exact g1
      ·simp only [zE,zH,upd,Nat.reduceEqDiff,if_false,if_true];first|done|rfl
      ·rw [f14]
       by_cases hj:j = a2
       ·rw [if_pos hj,if_pos hj];simp only [vR,if_neg hm0,hins,mhd];first|rfl|(rw [if_neg hne2];done)|(rw [if_neg hne3];done)
       ·rw [if_neg hj,if_neg hj]
      ·simp only [upd];(repeat rw [if_neg (by omega)]);exact hrow q y hy
      ·simp only [upd];(repeat rw [if_neg (by omega)]);exact hrow _ _ (by rw [XI,q1];rfl)
      ·simp only [upd];(repeat rw [if_neg (by omega)]);exact hrow _ _ (by rw [XH,q1];rfl)
      ·simp only [zo,zl,or_false] at hq ⊢;omega
      ·simp only [zo,zl,or_false];omega
      ·omega
      ·omega
      ·omega
      ·omega
    ·have f10:(KG 4 es2)[a2]? = some (.agg [V.int e2.num,.hd (4 + 3 * a2) 0 e2.hosts.length,.hd (4 + 3 * a2 + 1) 0 e2.machs.length,.hd (4 + 3 * a2 + 2) 0 e2.finds.length]):=by rw [Ug,q1];simp only [Option.map_some,Jp.own,mhd,if_neg hne2]
     have gM:EO[4 + 3 * a2 + 1]? = some (.buf true 1 (e2.machs.map V.int)):=by
      rw [show 4 + 3 * a2 + 1 = 4 + (3 * a2 + 1) by omega]
      exact hrow _ _ (by rw [Uf,q1];simp only [Option.map_some,mob,if_neg hne2])
     have hml:0 < e2.machs.length:=kK.2 hne2
     obtain ⟨nM,hnM⟩:∃ n,n = 4 + 3 * a2 + 1:=⟨_,rfl⟩
     rw [← hnM] at f10 gM
     have hM2:nM < 2000:=by omega
     have hM3:3≤nM:=by omega
     have u1:∀ q,(nM = q + 2000) = False:=fun q=>eq_false (by omega)
     have u3:∀ q,(q + 2000 = nM) = False:=fun q=>eq_false (by omega)
     have u5:(nM = 2) = False:=eq_false (by omega)
     have u6:(2 = nM) = False:=eq_false (by omega)
     have u7:(0 = nM) = False:=eq_false (by omega)
     have u8:(1 = nM) = False:=eq_false (by omega)
     have v1:∀ q,decide (nM < q + 2000) = true:=fun q=>zv (by omega)
     have wM:ZW (nM = 4 + 3 * a2 + 1):=⟨hnM⟩
     clear hnM
     rcases hfo:V3 e2.machs (bsI ltJ e2.machs f.mach) f.mach with _|_
     ·have f9:=iI e2.machs f.mach hml (by omega) hfo
      obtain ⟨hh,hins⟩:∃ hh,acs ltJ e2.machs f.mach = hh:=⟨_,rfl⟩
      have hne3:¬ hh = []:=by
       have:=(acr (lt:=ltJ) e2.machs f.mach).2
       rw [hins] at this
       exact kK.1 this
      rw [hins] at f9
      have hlm:(List.map V.int hh).length = hh.length:=zb _
      repeat' (first|(refine zsk ?_;intro K' hK)|(refine zrg ?_;intro K' hK)|refine zsp ?_|(refine zsc ?_ ?_<;>intro hc<;>first|exact znh|try simp only [znz] at hc)|simp (maxSteps:=1000000) only [go_sem,mTs,g0,g1,g2,g3,e5,hw,f10,f13,hlm,gM,v1,u1,u3,u5,u6,Int.toNat_natCast]|(refine hK _ ?_;clear hK K')|apply zan|(apply ado;(focus exact rfl);(focus first|exact f9);(focus exact rfl);(focus exact rfl);(focus (first|exact rfl|(simp;done))))|(apply wE;(focus exact rfl);(focus exact rfl);(focus first|exact f9);(focus exact rfl);(focus (first|exact rfl|(simp;done)));(focus (first|exact rfl|(simp;done))))|(apply aks;(focus first|exact rfl|(simp only [upd,if_false, *];exact rfl));(focus first|exact rfl|decide|(simp [rA,rW];done)|(simp [rA,rW];omega)|omega);(focus first|exact rfl|decide|(simp [rA,rW];done)|(simp [rA,rW];omega)|omega);(focus first|exact f9);(focus exact rfl);(focus first|exact rfl|decide|(simp [rA,rW];done)|(simp [rA,rW];omega)|omega);(focus (first|exact rfl|(simp;done)));(focus exact rfl))|(apply wG;(focus exact rfl);(focus first|exact (z3 _ _ zsd zsd));(focus exact rfl);(focus exact rfl))|(apply xz;(focus exact rfl);(focus exact zrd);(focus exact zrd);(focus first|exact (z3 _ _ zsd zsd));(focus exact rfl);(focus exact rfl);(focus exact zrd))|(apply wD;(focus first|exact (z2 _ _ zsd zsd)))|(apply xy;(focus first|exact (z2 _ _ zsd zsd));(focus exact zrd))|((first|apply QJ|apply Jn);(focus first|exact (z0 _ _ zsd zsd).b))|exact zsq|fail)
      all_goals
       have wM':=wM.h
       refine hL _ (k + 1) (adc [0,1,2] (nmS 4 a2 (4 + 3 * a2) 12000 (4 + 3 * a2 + 2))) (by omega) (by omega) ?_
       rw [hm,← q2]
       refine aeH (N:=4) (es0:=es2) (e1:=vR f e2) (els:=(KG 4 es2).set a2 (.agg [V.int e2.num,.hd (4 + 3 * a2) 0 e2.hosts.length,.hd 12000 0 hh.length,.hd (4 + 3 * a2 + 2) 0 e2.finds.length])) [0,1,2] rfl rfl q5 (by omega) (adj rfl (by rw [zF];rfl) rfl rfl rfl rfl) (by simp) ?_ ?_ ?_ (fun k y h=>by simp at h) (fun j=>?_) (fun q y hq hq3 hy=>?_) ?_ ⟨.buf true 1 (hh.map V.int),by simp only [upd,u3,Nat.reduceEqDiff,if_false,if_true],fun _=>by simp only [vR,if_neg hm0,hins]⟩ ?_ (by simp) (fun q hq=>?_) ?_ ?_ ?_ ?_ ?_
       ·simp only [zE,zH,upd,Nat.reduceEqDiff,if_false,if_true,u6,u7,u8];first|done|exact g0
       ·rw [jQ (e1:=vR f e2) q1 rfl,zF];simp only [zE,zH,upd,Nat.reduceEqDiff,if_false,if_true,u6,u7,u8];first|done|exact g1
       ·simp only [zE,zH,upd,Nat.reduceEqDiff,if_false,if_true,u6,u7,u8];first|done|rfl
       ·rw [f14]
        by_cases hj:j = a2
        ·rw [if_pos hj,if_pos hj];simp only [vR,if_neg hm0,hins,mhd];first|rfl|(rw [if_neg hne2];done)|(rw [if_neg hne3];done)
        ·rw [if_neg hj,if_neg hj]
       ·simp only [upd];(repeat rw [if_neg (by omega)]);exact hrow q y hy
       ·simp only [upd];(repeat rw [if_neg (by omega)]);exact hrow _ _ (by rw [XI,q1];rfl)
       ·simp only [upd];(repeat rw [if_neg (by omega)]);exact hrow _ _ (by rw [XH,q1];rfl)
       ·simp only [zo,zl,or_false] at hq ⊢;omega
       ·simp only [zo,zl,or_false];omega
       ·omega
       ·omega
       ·omega
       ·omega
     ·have f9:=iX e2.machs f.mach hml (by omega) hfo
      have hins:acs ltJ e2.machs f.mach = e2.machs:=by rw [acs,if_pos hfo]
      repeat' (first|(refine zsk ?_;intro K' hK)|(refine zrg ?_;intro K' hK)|refine zsp ?_|(refine zsc ?_ ?_<;>intro hc<;>first|exact znh|try simp only [znz] at hc)|simp (maxSteps:=1000000) only [go_sem,mTs,g0,g1,g2,g3,e5,hw,f10,f13,gM,v1,u1,u3,u5,u6,Int.toNat_natCast]|(refine hK _ ?_;clear hK K')|apply zan|(apply aoQ;(focus exact rfl);(focus first|exact f9);(focus exact rfl);(focus exact rfl);(focus (first|exact rfl|(simp;done))))|(apply akp;(focus first|exact rfl|(simp only [upd,if_false, *];exact rfl));(focus first|exact rfl|decide|(simp [rA,rW];done)|(simp [rA,rW];omega)|omega);(focus first|exact rfl|decide|(simp [rA,rW];done)|(simp [rA,rW];omega)|omega);(focus first|exact f9);(focus exact rfl);(focus first|exact rfl|decide|(simp [rA,rW];done)|(simp [rA,rW];omega)|omega);(focus (first|exact rfl|(simp;done)));(focus exact rfl))|(apply wG;(focus exact rfl);(focus first|exact (z3 _ _ zsd zsd));(focus exact rfl);(focus exact rfl))|(apply xz;(focus exact rfl);(focus exact zrd);(focus exact zrd);(focus first|exact (z3 _ _ zsd zsd));(focus exact rfl);(focus exact rfl);(focus exact zrd))|(apply wD;(focus first|exact (z2 _ _ zsd zsd)))|(apply xy;(focus first|exact (z2 _ _ zsd zsd));(focus exact zrd))|((first|apply QJ|apply Jn);(focus first|exact (z0 _ _ zsd zsd).b))|exact zsq|fail)
      all_goals
       have wM':=wM.h
       refine hL _ (k + 1) (adc [0,1,2] (nmS 4 a2 (4 + 3 * a2) nM (4 + 3 * a2 + 2))) (by omega) (by omega) ?_
       rw [hm,← q2]
       refine aeH (N:=4) (es0:=es2) (e1:=vR f e2) (els:=(KG 4 es2).set a2 (.agg [V.int e2.num,.hd (4 + 3 * a2) 0 e2.hosts.length,.hd nM 0 e2.machs.length,.hd (4 + 3 * a2 + 2) 0 e2.finds.length])) [0,1,2] rfl rfl q5 (by omega) (adj rfl (by rw [zF];rfl) rfl rfl rfl rfl) (by simp) ?_ ?_ ?_ (fun k y h=>by simp at h) (fun j=>?_) (fun q y hq hq3 hy=>?_) ?_ ⟨.buf true 1 (e2.machs.map V.int),by simp only [upd,u5,if_false,if_true,gM],fun _=>by simp only [vR,if_neg hm0,hins]⟩ ?_ (by simp) (fun q hq=>?_) ?_ ?_ ?_ ?_ ?_
       ·simp only [zE,zH,upd,Nat.reduceEqDiff,if_false,if_true,u6,u7,u8];first|done|exact g0
       ·rw [jQ (e1:=vR f e2) q1 rfl,zF];simp only [zE,zH,upd,Nat.reduceEqDiff,if_false,if_true,u6,u7,u8];first|done|exact g1
       ·simp only [zE,zH,upd,Nat.reduceEqDiff,if_false,if_true,u6,u7,u8];first|done|rfl
       ·rw [f14]
        by_cases hj:j = a2
        ·rw [if_pos hj,if_pos hj];simp only [vR,if_neg hm0,hins,mhd];first|rfl|(rw [if_neg hne2];done)|(rw [if_neg hne3];done)
        ·rw [if_neg hj,if_neg hj]
       ·simp only [upd];(repeat rw [if_neg (by omega)]);exact hrow q y hy
       ·simp only [upd];(repeat rw [if_neg (by omega)]);exact hrow _ _ (by rw [XI,q1];rfl)
       ·simp only [upd];(repeat rw [if_neg (by omega)]);exact hrow _ _ (by rw [XH,q1];rfl)
       ·simp only [zo,zl,or_false] at hq ⊢;omega
       ·simp only [zo,zl,or_false];omega
       ·omega
       ·omega
       ·omega
       ·omega
 ·obtain ⟨a,e,hia,hea,hen⟩:=hI.find hp hk0
  have hal:=(zj.1 hea).1
  have hsz:=hI.sz e (zq hea)
  have hel:=hI.len
  have hrk:=ad1 hp k
  have e2:(((Xs p k:Nat):Int) == (k:Int)) = false:=by simp;omega
  have g0:(eO p (es.map Jp.num) (List.range es.length) [] es)[0]? = some (.box true (Jc p)):=rfl
  have g1:(eO p (es.map Jp.num) (List.range es.length) [] es)[1]? = some (.map (Jc (es.map Jp.num)) (Jc (List.range es.length)) 0):=rfl
  have g2:(eO p (es.map Jp.num) (List.range es.length) [] es)[2]? = some (.obuf true 4 (KG 3 es)):=rfl
  have f1:=vr (Xs p k) (es.map Jp.num) 0
  rw [hia] at f1
  have f3:=ae7 ((Xs p k:Nat):Int)
  have f6:(Jc (List.range es.length))[a]? = some (V.int (a:Nat)):=KF (by simp [hal])
  have f8:=VI es 3
  have hes:J8 l p (k + 1) = es.set a (YW k f e):=by rw [hsu,afK,if_neg hk0,hia];simp only [hea]
  clear hsu
  generalize Xs p k = rt at *
  repeat' (first|(refine zsk ?_;intro K' hK)|refine zsp ?_|(refine zsc ?_ ?_<;>intro hc<;>first|exact znh|try simp only [znz] at hc)|simp (maxSteps:=1000000) only [go_sem,eSt,eTs,e1,e2,g0,g1,g2,f1,f3,f6,f8,Int.toNat_natCast,zk,hget,Qc.v,Qc.cells]|(refine hK _ ?_;clear hK K')|apply zan|(apply wG;(focus exact rfl);(focus first|exact n1|exact (z3 _ _ zsd zsd));(focus exact rfl);(focus exact rfl))|(apply wD;(focus first|exact (z2 _ _ zsd zsd)))|(apply QJ;(focus first|exact (z0 _ _ zsd zsd).b))|exact zsq|fail)
  refine alA (ι:=List Jp×Nat×Jp) (aus l p k f) (fun q=>mSt l p q.1 f q.2.1 k) (fun s=>s.keep [7,8,9,11,13,24,25,26]) (fun K2 hK2=>?_) (fun q hq s' τ hwk=>?_)
  ·have f10:(KG 3 es)[a]? = some (.agg [V.int e.num,.hd (3 + 3 * a) 0 e.hosts.length,mhd (3 + 3 * a + 1) e.machs,.hd (3 + 3 * a + 2) 0 e.finds.length]):=by rw [Ug,hea];rfl
   have gH:(eO p (es.map Jp.num) (List.range es.length) [] es)[3 + 3 * a]? = some (.buf true 1 (e.hosts.map V.str)):=by
    rw [show 3 + 3 * a = 3 + ([]:List Ob).length + 3 * a from rfl,wz,XI,hea];rfl
   have gF:(eO p (es.map Jp.num) (List.range es.length) [] es)[3 + 3 * a + 2]? = some (.buf true 1 (Jc e.finds)):=by
    rw [show 3 + 3 * a + 2 = 3 + ([]:List Ob).length + (3 * a + 2) by simp;omega,wz,XH,hea];rfl
   obtain ⟨nH,hnH⟩:∃ n,n = 3 + 3 * a:=⟨_,rfl⟩
   obtain ⟨nF,hnF⟩:∃ n,n = 3 + 3 * a + 2:=⟨_,rfl⟩
   rw [← hnF] at f10 gF
   rw [← hnH] at f10 gH
   have hF2:nF < 2000:=by omega
   have hH2:nH < 2000:=by omega
   have v1:∀ q,decide (nH < q + 2000) = true:=fun q=>zv (by omega)
   have v2:∀ q,decide (nF < q + 2000) = true:=fun q=>zv (by omega)
   have u1:∀ q,(nH = q + 2000) = False:=fun q=>eq_false (by omega)
   have u2:∀ q,(nF = q + 2000) = False:=fun q=>eq_false (by omega)
   have u3:∀ q,(q + 2000 = nH) = False:=fun q=>eq_false (by omega)
   have u4:∀ q,(q + 2000 = nF) = False:=fun q=>eq_false (by omega)
   have u5:(nH = nF) = False:=eq_false (by omega)
   have u6:(nF = nH) = False:=eq_false (by omega)
   have u7:(nH = 0) = False:=eq_false (by omega)
   have u8:(nF = 0) = False:=eq_false (by omega)
   have u11:(nH = 2) = False:=eq_false (by omega)
   have u12:(nF = 2) = False:=eq_false (by omega)
   have u9:(2 = nH) = False:=eq_false (by omega)
   have u10:(2 = nF) = False:=eq_false (by omega)
   have hH3:3≤nH:=by omega
   have hF3:3≤nF:=by omega
   have wH:ZW (nH = 3 + 3 * a):=⟨hnH⟩
   have wF:ZW (nF = 3 + 3 * a + 2):=⟨hnF⟩
   clear hnH hnF
   have f11:List.take e.finds.length (Jc e.finds)++[V.int k] = Jc (e.finds++[k]):=by rw [zi (by rw [KE];exact zm _),wd]
   have f12:=KE e.finds
   have z1:e.finds.length≤400:=by have:=hsz.f1;omega
   have w0:(0 = nH) = False:=eq_false (by omega)
   have w1:(0 = nF) = False:=eq_false (by omega)
   have w2:(1 = nH) = False:=eq_false (by omega)
   have w3:(1 = nF) = False:=eq_false (by omega)
   have f13:∀ v:V,((KG 3 es).set a v)[a]? = some v:=fun v=>by rw [ka,if_pos rfl,if_pos (by rw [f8];exact hal)]
   have f14:∀ j (v:V),((KG 3 es).set a v)[j]? = if j = a then some v else (KG 3 es)[j]?:=fun j v=>by
    rw [ka]
    by_cases hj:a = j
    ·subst hj;rw [if_pos rfl,if_pos (by rw [f8];exact hal),if_pos rfl]
    ·rw [if_neg hj,if_neg (fun e=>hj e.symm)]
   have f15:∀ v w:V,((KG 3 es).set a v).set a w = (KG 3 es).set a w:=fun v w=>List.set_set ..
   rcases hfo:V3 e.hosts (bsI Op.bytesLess e.hosts f.host) f.host with _|_
   ·have f9:=sI e.hosts f.host hsz.h0 (by have:=hsz.h1;omega) hfo
    clear sX sI sW iX iI iW hL
    obtain ⟨hh,hins⟩:∃ hh,acs Op.bytesLess e.hosts f.host = hh:=⟨_,rfl⟩
    rw [hins] at f9
    have hlm:(List.map V.str hh).length = hh.length:=zb _
    repeat' (first|(refine zsk ?_;intro K' hK)|(refine zrg ?_;intro K' hK)|refine zsp ?_|(refine zsc ?_ ?_<;>intro hc<;>first|exact znh|try simp only [znz] at hc)|simp (maxSteps:=1000000) only [go_sem,f8,f10,f11,f12,f13,f15,hlm,gH,gF,g2,v1,v2,u1,u2,u3,u4,u5,u6,u7,u8,u9,u10,Int.toNat_natCast]|(refine hK _ ?_;clear hK K')|apply zan|(apply ado;(focus exact rfl);(focus first|exact f9);(focus exact rfl);(focus exact rfl);(focus (first|exact rfl|(simp;done))))|(apply wE;(focus exact rfl);(focus exact rfl);(focus first|exact f9);(focus exact rfl);(focus (first|exact rfl|(simp;done)));(focus (first|exact rfl|(simp;done))))|(apply aks;(focus first|exact rfl|(simp only [upd,if_false, *];exact rfl));(focus first|exact rfl|decide|(simp [rA,rW];done)|(simp [rA,rW];omega)|omega);(focus first|exact rfl|decide|(simp [rA,rW];done)|(simp [rA,rW];omega)|omega);(focus first|exact f9);(focus exact rfl);(focus first|exact rfl|decide|(simp [rA,rW];done)|(simp [rA,rW];omega)|omega);(focus (first|exact rfl|(simp;done)));(focus exact rfl))|(apply wG;(focus exact rfl);(focus first|exact (z3 _ _ zsd zsd));(focus exact rfl);(focus exact rfl))|(apply xz;(focus exact rfl);(focus exact zrd);(focus exact zrd);(focus first|exact (z3 _ _ zsd zsd));(focus exact rfl);(focus exact rfl);(focus exact zrd))|(apply wD;(focus first|exact (z2 _ _ zsd zsd)))|(apply xy;(focus first|exact (z2 _ _ zsd zsd));(focus exact zrd))|((first|apply QJ|apply Jn);(focus first|exact (z0 _ _ zsd zsd).b))|exact zsq|fail)
    all_goals
     have wH':=wH.h
     have wF':=wF.h
     refine hK2 _ (es.set a (QX k f e),a,QX k f e) (adc [0,1,2,6000] (nmS 3 a 30000 (3 + 3 * a + 1) 37000)) ⟨?_,?_,?_,?_⟩ ?_
     ·simp only;rw [ka,if_pos rfl,if_pos hal]
     ·simp only;rw [hes,List.set_set];rfl
     ·simp only [zF];omega
     ·simp only [QX];have:=hsz.m1;omega
     rw [hm]
     refine aeH (es0:=es) (e1:=QX k f e) (els:=(KG 3 es).set a (.agg [V.int e.num,.hd 30000 0 hh.length,mhd (nH + 1) e.machs,.hd 37000 0 (e.finds.length + 1)])) [0,1,2,6000] rfl rfl hal (by omega) (anU rfl (by rw [zF];rfl) rfl rfl rfl rfl rfl rfl) (by simp) ?_ ?_ ?_ (arH (x3:=6000) rfl ?_) (fun j=>?_) (fun q y hq hq3 hy=>?_) ?_ ⟨mob e.machs,?_,fun hne=>by rw [mob,if_neg (show ¬ e.machs = [] from hne)];rfl⟩ ?_ (by simp) (fun q hq=>?_) ?_ ?_ ?_ ?_ ?_
     ·simp only [zE,St.keep,upd,u7,u8,w0,w1,if_false,if_true,Nat.reduceEqDiff]
     ·rw [jQ (e1:=QX k f e) hea rfl,zF]
      simp only [zH,zE,St.keep,upd,w2,w3,if_false,if_true,Nat.reduceEqDiff,g1]
     ·simp only [zH,zE,St.keep,upd,u9,u10,if_false,if_true,Nat.reduceEqDiff]
     ·simp only [St.keep,upd,u3,u4,if_false,if_true,Nat.reduceEqDiff];rfl
     ·rw [f14]
      by_cases hj:j = a
      ·rw [if_pos hj,if_pos hj,wH']
       simp only [QX,hins,zn,List.length_singleton]
      ·rw [if_neg hj,if_neg hj]
     ·simp only [St.keep,upd]
      repeat rw [if_neg (by omega)]
      rw [show 3 + q = 3 + ([]:List Ob).length + q from rfl,wz]
      exact hy
     ·simp only [QX,hins,St.keep,upd,u1,u3,u4,u5,u6,u11,u12,if_false,if_true,Nat.reduceEqDiff]
     ·simp only [St.keep,upd]
      repeat rw [if_neg (by omega)]
      rw [show 3 + 3 * a + 1 = 3 + ([]:List Ob).length + (3 * a + 1) by simp;omega,wz,Uf,hea];rfl
     ·simp only [QX,St.keep,upd,u3,u4,if_false,if_true,Nat.reduceEqDiff]
     ·simp only [zo,zl,or_false] at hq ⊢;omega
     ·simp only [zo,zl,or_false];omega
     ·omega
     ·omega
     ·omega
     ·omega
   ·have f9:=sX e.hosts f.host hsz.h0 (by have:=hsz.h1;omega) hfo
    clear sX sI sW iX iI iW hL
    have hins:acs Op.bytesLess e.hosts f.host = e.hosts:=by rw [acs,if_pos hfo]
    repeat' (first|(refine zsk ?_;intro K' hK)|(refine zrg ?_;intro K' hK)|refine zsp ?_|(refine zsc ?_ ?_<;>intro hc<;>first|exact znh|try simp only [znz] at hc)|simp (maxSteps:=1000000) only [go_sem,f8,f10,f11,f12,f13,f15,gH,gF,g2,v1,v2,u1,u2,u3,u4,u5,u6,u7,u8,u9,u10,Int.toNat_natCast]|(refine hK _ ?_;clear hK K')|apply zan|(apply aoQ;(focus exact rfl);(focus first|exact f9);(focus exact rfl);(focus exact rfl);(focus (first|exact rfl|(simp;done))))|(apply akp;(focus first|exact rfl|(simp only [upd,if_false, *];exact rfl));(focus first|exact rfl|decide|(simp [rA,rW];done)|(simp [rA,rW];omega)|omega);(focus first|exact rfl|decide|(simp [rA,rW];done)|(simp [rA,rW];omega)|omega);(focus first|exact f9);(focus exact rfl);(focus first|exact rfl|decide|(simp [rA,rW];done)|(simp [rA,rW];omega)|omega);(focus (first|exact rfl|(simp;done)));(focus exact rfl))|(apply wG;(focus exact rfl);(focus first|exact (z3 _ _ zsd zsd));(focus exact rfl);(focus exact rfl))|(apply xz;(focus exact rfl);(focus exact zrd);(focus exact zrd);(focus first|exact (z3 _ _ zsd zsd));(focus exact rfl);(focus exact rfl);(focus exact zrd))|(apply wD;(focus first|exact (z2 _ _ zsd zsd)))|(apply xy;(focus first|exact (z2 _ _ zsd zsd));(focus exact zrd))|((first|apply QJ|apply Jn);(focus first|exact (z0 _ _ zsd zsd).b))|exact zsq|fail)
    all_goals
     have wH':=wH.h
     have wF':=wF.h
     refine hK2 _ (es.set a (QX k f e),a,QX k f e) (adc [0,1,2,6000] (nmS 3 a nH (3 + 3 * a + 1) 37000)) ⟨?_,?_,?_,?_⟩ ?_
     ·simp only;rw [ka,if_pos rfl,if_pos hal]
     ·simp only;rw [hes,List.set_set];rfl
     ·simp only [zF];omega
     ·simp only [QX];have:=hsz.m1;omega
     rw [hm]
     refine aeH (es0:=es) (e1:=QX k f e) (els:=(KG 3 es).set a (.agg [V.int e.num,.hd nH 0 e.hosts.length,mhd (nH + 1) e.machs,.hd 37000 0 (e.finds.length + 1)])) [0,1,2,6000] rfl rfl hal (by omega) (anU rfl (by rw [zF];rfl) rfl rfl rfl rfl rfl rfl) (by simp) ?_ ?_ ?_ (arH (x3:=6000) rfl ?_) (fun j=>?_) (fun q y hq hq3 hy=>?_) ?_ ⟨mob e.machs,?_,fun hne=>by rw [mob,if_neg (show ¬ e.machs = [] from hne)];rfl⟩ ?_ (by simp) (fun q hq=>?_) ?_ ?_ ?_ ?_ ?_
     ·simp only [zE,St.keep,upd,u7,u8,w0,w1,if_false,if_true,Nat.reduceEqDiff]
     ·rw [jQ (e1:=QX k f e) hea rfl,zF]
      simp only [zH,zE,St.keep,upd,w2,w3,if_false,if_true,Nat.reduceEqDiff,g1]
     ·simp only [zH,zE,St.keep,upd,u9,u10,if_false,if_true,Nat.reduceEqDiff]
     ·simp only [St.keep,upd,u3,u4,if_false,if_true,Nat.reduceEqDiff];rfl
     ·rw [f14]
      by_cases hj:j = a
      ·rw [if_pos hj,if_pos hj,wH']
       simp only [QX,hins,zn,List.length_singleton]
      ·rw [if_neg hj,if_neg hj]
     ·simp only [St.keep,upd]
      repeat rw [if_neg (by omega)]
      rw [show 3 + q = 3 + ([]:List Ob).length + q from rfl,wz]
      exact hy
     ·simp only [QX,hins,St.keep,upd,u1,u3,u4,u5,u6,u11,u12,if_false,if_true,Nat.reduceEqDiff]
     ·simp only [St.keep,upd]
      repeat rw [if_neg (by omega)]
      rw [show 3 + 3 * a + 1 = 3 + ([]:List Ob).length + (3 * a + 1) by simp;omega,wz,Uf,hea];rfl
     ·simp only [QX,St.keep,upd,u3,u4,if_false,if_true,Nat.reduceEqDiff]
     ·simp only [zo,zl,or_false] at hq ⊢;omega
     ·simp only [zo,zl,or_false];omega
     ·omega
     ·omega
     ·omega
     ·omega
  ·obtain ⟨es2,a2,e2⟩:=q
   obtain ⟨q1,q2,q3,q4⟩:=hq
   simp only at q1 q2 q3 q4 hwk ⊢
   refine aec hwk ?_
   clear hwk
   have q5:=(zj.1 q1).1
   have g0:(eO p (es2.map Jp.num) (List.range es2.length) [.box true f.cells] es2)[0]? = some (.box true (Jc p)):=rfl
   have g1:(eO p (es2.map Jp.num) (List.range es2.length) [.box true f.cells] es2)[1]? = some (.map (Jc (es2.map Jp.num)) (Jc (List.range es2.length)) 0):=rfl
   have g2:(eO p (es2.map Jp.num) (List.range es2.length) [.box true f.cells] es2)[2]? = some (.obuf true 4 (KG 4 es2)):=rfl
   have g3:(eO p (es2.map Jp.num) (List.range es2.length) [.box true f.cells] es2)[3]? = some (.box true f.cells):=rfl
   simp only [mSt]
   generalize hEO:eO p (es2.map Jp.num) (List.range es2.length) [.box true f.cells] es2 = EO at g0 g1 g2 g3 ⊢
   simp only [Qc.cells] at g3
   have hrow:∀ q y,(adb es2)[q]? = some y→EO[4 + q]? = some y:=fun q y h=>by
    rw [← hEO,show 4 + q = 3 + [Ob.box true f.cells].length + q from rfl,wz];exact h
   have wEO:ZW (eO p (es2.map Jp.num) (List.range es2.length) [.box true f.cells] es2 = EO):=⟨hEO⟩
   clear hEO
   by_cases hm0:f.mach = 0
   ·have e5:(f.mach != 0) = false:=by simpa using hm0
    (have zx:=za g0 (za g1 (za g2 (za g3 (za e5 hw)))));refine zgo ?_;repeat' first|exact zt|apply zan|intro hc
    all_goals
     refine hL _ (k + 1) (adc [0,1,2] (nmS 4 a2 (4 + 3 * a2) (4 + 3 * a2 + 1) (4 + 3 * a2 + 2))) (by omega) (by omega) ?_
     rw [hm,← q2]
     refine aeH (N:=4) (es0:=es2) (e1:=vR f e2) (els:=KG 4 es2) [0,1,2] rfl rfl q5 (by omega) (adj rfl (by rw [zF];rfl) rfl rfl rfl rfl) (by simp) ?_ ?_ ?_ (fun k y h=>by simp at h) (fun j=>?_) (fun q y hq hq3 hy=>?_) ?_ ⟨mob e2.machs,hrow _ _ (by rw [Uf,q1];rfl),fun hne=>by rw [vR,if_pos hm0] at hne ⊢;rw [mob,if_neg hne]⟩ ?_ (by simp) (fun q hq=>?_) ?_ ?_ ?_ ?_ ?_
     ·exact g0
     ·rw [jQ (e1:=vR f e2) q1 rfl,zF];exact g1
     ·first|exact g2|rfl
     ·rw [Ug]
      by_cases hj:j = a2
      ·rw [if_pos hj,hj,q1];simp only [Option.map_some,Jp.own,vR,if_pos hm0]
      ·rw [if_neg hj]
     ·exact hrow q y hy
     ·exact hrow _ _ (by rw [XI,q1];rfl)
     ·exact hrow _ _ (by rw [XH,q1];rfl)
     ·simp only [zo,zl,or_false] at hq ⊢;omega
     ·simp only [zo,zl,or_false];omega
     ·omega
     ·omega
     ·omega
     ·omega
   ·have e5:(f.mach != 0) = true:=by simpa using hm0
    have f8:=VI es2 4
    have f13:∀ v:V,((KG 4 es2).set a2 v)[a2]? = some v:=fun v=>by rw [ka,if_pos rfl,if_pos (by rw [f8];exact q5)]
    have f14:∀ j (v:V),((KG 4 es2).set a2 v)[j]? = if j = a2 then some v else (KG 4 es2)[j]?:=fun j v=>by
     rw [ka]
     by_cases hj:a2 = j
     ·subst hj;rw [if_pos rfl,if_pos (by rw [f8];exact q5),if_pos rfl]
     ·rw [if_neg hj,if_neg (fun e=>hj e.symm)]
    by_cases hne2:e2.machs = []
    ·have f10:(KG 4 es2)[a2]? = some (.agg [V.int e2.num,.hd (4 + 3 * a2) 0 e2.hosts.length,jR,.hd (4 + 3 * a2 + 2) 0 e2.finds.length]):=by rw [Ug,q1];simp only [Option.map_some,Jp.own,mhd,if_pos hne2]
     have f9:=iW f.mach
     have hins:acs ltJ e2.machs f.mach = [f.mach]:=by rw [hne2,ad7]
     have hne3:¬ ([f.mach]:List Int) = []:=by simp
     (have zx:=za g0 (za g1 (za g2 (za g3 (za e5 (za hw (za f10 f13)))))));refine zgo ?_;repeat' first|exact zt|apply zan|intro hc
     all_goals
      refine hL _ (k + 1) (adc [0,1,2] (nmS 4 a2 (4 + 3 * a2) 12000 (4 + 3 * a2 + 2))) (by omega) (by omega) ?_
      rw [hm,← q2]
      refine aeH (N:=4) (es0:=es2) (e1:=vR f e2) (els:=(KG 4 es2).set a2 (.agg [V.int e2.num,.hd (4 + 3 * a2) 0 e2.hosts.length,.hd 12000 0 1,.hd (4 + 3 * a2 + 2) 0 e2.finds.length])) [0,1,2] rfl rfl q5 (by omega) (adj rfl (by rw [zF];rfl) rfl rfl rfl rfl) (by simp) ?_ ?_ ?_ (fun k y h=>by simp at h) (fun j=>?_) (fun q y hq hq3 hy=>?_) ?_ ⟨_,rfl,fun _=>by simp only [vR,if_neg hm0,hins];rfl⟩ ?_ (by simp) (fun q hq=>?_) ?_ ?_ ?_ ?_ ?_
      ·simp only [zE,zH,upd,Nat.reduceEqDiff,if_false,if_true];first|done|exact g0
      ·rw [jQ (e1:=vR f e2) q1 rfl,zF];simp only [zE,zH,upd,Nat.reduceEqDiff,if_false,if_true];first|done|exact g1
      ·simp only [zE,zH,upd,Nat.reduceEqDiff,if_false,if_true];first|done|rfl
      ·rw [f14]
       by_cases hj:j = a2
       ·rw [if_pos hj,if_pos hj];simp only [vR,if_neg hm0,hins,mhd];first|rfl|(rw [if_neg hne2];done)|(rw [if_neg hne3];done)
       ·rw [if_neg hj,if_neg hj]
      ·simp only [upd];(repeat rw [if_neg (by omega)]);exact hrow q y hy
      ·simp only [upd];(repeat rw [if_neg (by omega)]);exact hrow _ _ (by rw [XI,q1];rfl)
      ·simp only [upd];(repeat rw [if_neg (by omega)]);exact hrow _ _ (by rw [XH,q1];rfl)
      ·simp only [zo,zl,or_false] at hq ⊢;omega
      ·simp only [zo,zl,or_false];omega
      ·omega
      ·omega
      ·omega
      ·omega
    ·have f10:(KG 4 es2)[a2]? = some (.agg [V.int e2.num,.hd (4 + 3 * a2) 0 e2.hosts.length,.hd (4 + 3 * a2 + 1) 0 e2.machs.length,.hd (4 + 3 * a2 + 2) 0 e2.finds.length]):=by rw [Ug,q1];simp only [Option.map_some,Jp.own,mhd,if_neg hne2]
     have gM:EO[4 + 3 * a2 + 1]? = some (.buf true 1 (e2.machs.map V.int)):=by
      rw [show 4 + 3 * a2 + 1 = 4 + (3 * a2 + 1) by omega]
      exact hrow _ _ (by rw [Uf,q1];simp only [Option.map_some,mob,if_neg hne2])
     have hml:0 < e2.machs.length:=kK.2 hne2
     obtain ⟨nM,hnM⟩:∃ n,n = 4 + 3 * a2 + 1:=⟨_,rfl⟩
     rw [← hnM] at f10 gM
     have hM2:nM < 2000:=by omega
     have hM3:3≤nM:=by omega
     have u1:∀ q,(nM = q + 2000) = False:=fun q=>eq_false (by omega)
     have u3:∀ q,(q + 2000 = nM) = False:=fun q=>eq_false (by omega)
     have u5:(nM = 2) = False:=eq_false (by omega)
     have u6:(2 = nM) = False:=eq_false (by omega)
     have u7:(0 = nM) = False:=eq_false (by omega)
     have u8:(1 = nM) = False:=eq_false (by omega)
     have v1:∀ q,decide (nM < q + 2000) = true:=fun q=>zv (by omega)
     have wM:ZW (nM = 4 + 3 * a2 + 1):=⟨hnM⟩
     clear hnM
     rcases hfo:V3 e2.machs (bsI ltJ e2.machs f.mach) f.mach with _|_
     ·have f9:=iI e2.machs f.mach hml (by omega) hfo
      obtain ⟨hh,hins⟩:∃ hh,acs ltJ e2.machs f.mach = hh:=⟨_,rfl⟩
      have hne3:¬ hh = []:=by
       have:=(acr (lt:=ltJ) e2.machs f.mach).2
       rw [hins] at this
       exact kK.1 this
      rw [hins] at f9
      have hlm:(List.map V.int hh).length = hh.length:=zb _
      repeat' (first|(refine zsk ?_;intro K' hK)|(refine zrg ?_;intro K' hK)|refine zsp ?_|(refine zsc ?_ ?_<;>intro hc<;>first|exact znh|try simp only [znz] at hc)|simp (maxSteps:=1000000) only [go_sem,mTs,g0,g1,g2,g3,e5,hw,f10,f13,hlm,gM,v1,u1,u3,u5,u6,Int.toNat_natCast]|(refine hK _ ?_;clear hK K')|apply zan|(apply ado;(focus exact rfl);(focus first|exact f9);(focus exact rfl);(focus exact rfl);(focus (first|exact rfl|(simp;done))))|(apply wE;(focus exact rfl);(focus exact rfl);(focus first|exact f9);(focus exact rfl);(focus (first|exact rfl|(simp;done)));(focus (first|exact rfl|(simp;done))))|(apply aks;(focus first|exact rfl|(simp only [upd,if_false, *];exact rfl));(focus first|exact rfl|decide|(simp [rA,rW];done)|(simp [rA,rW];omega)|omega);(focus first|exact rfl|decide|(simp [rA,rW];done)|(simp [rA,rW];omega)|omega);(focus first|exact f9);(focus exact rfl);(focus first|exact rfl|decide|(simp [rA,rW];done)|(simp [rA,rW];omega)|omega);(focus (first|exact rfl|(simp;done)));(focus exact rfl))|(apply wG;(focus exact rfl);(focus first|exact (z3 _ _ zsd zsd));(focus exact rfl);(focus exact rfl))|(apply xz;(focus exact rfl);(focus exact zrd);(focus exact zrd);(focus first|exact (z3 _ _ zsd zsd));(focus exact rfl);(focus exact rfl);(focus exact zrd))|(apply wD;(focus first|exact (z2 _ _ zsd zsd)))|(apply xy;(focus first|exact (z2 _ _ zsd zsd));(focus exact zrd))|((first|apply QJ|apply Jn);(focus first|exact (z0 _ _ zsd zsd).b))|exact zsq|fail)
      all_goals
       have wM':=wM.h
       refine hL _ (k + 1) (adc [0,1,2] (nmS 4 a2 (4 + 3 * a2) 12000 (4 + 3 * a2 + 2))) (by omega) (by omega) ?_
       rw [hm,← q2]
       refine aeH (N:=4) (es0:=es2) (e1:=vR f e2) (els:=(KG 4 es2).set a2 (.agg [V.int e2.num,.hd (4 + 3 * a2) 0 e2.hosts.length,.hd 12000 0 hh.length,.hd (4 + 3 * a2 + 2) 0 e2.finds.length])) [0,1,2] rfl rfl q5 (by omega) (adj rfl (by rw [zF];rfl) rfl rfl rfl rfl) (by simp) ?_ ?_ ?_ (fun k y h=>by simp at h) (fun j=>?_) (fun q y hq hq3 hy=>?_) ?_ ⟨.buf true 1 (hh.map V.int),by simp only [upd,u3,Nat.reduceEqDiff,if_false,if_true],fun _=>by simp only [vR,if_neg hm0,hins]⟩ ?_ (by simp) (fun q hq=>?_) ?_ ?_ ?_ ?_ ?_
       ·simp only [zE,zH,upd,Nat.reduceEqDiff,if_false,if_true,u6,u7,u8];first|done|exact g0
       ·rw [jQ (e1:=vR f e2) q1 rfl,zF];simp only [zE,zH,upd,Nat.reduceEqDiff,if_false,if_true,u6,u7,u8];first|done|exact g1
       ·simp only [zE,zH,upd,Nat.reduceEqDiff,if_false,if_true,u6,u7,u8];first|done|rfl
       ·rw [f14]
        by_cases hj:j = a2
        ·rw [if_pos hj,if_pos hj];simp only [vR,if_neg hm0,hins,mhd];first|rfl|(rw [if_neg hne2];done)|(rw [if_neg hne3];done)
        ·rw [if_neg hj,if_neg hj]
       ·simp only [upd];(repeat rw [if_neg (by omega)]);exact hrow q y hy
       ·simp only [upd];(repeat rw [if_neg (by omega)]);exact hrow _ _ (by rw [XI,q1];rfl)
       ·simp only [upd];(repeat rw [if_neg (by omega)]);exact hrow _ _ (by rw [XH,q1];rfl)
       ·simp only [zo,zl,or_false] at hq ⊢;omega
       ·simp only [zo,zl,or_false];omega
       ·omega
       ·omega
       ·omega
       ·omega
     ·have f9:=iX e2.machs f.mach hml (by omega) hfo
      have hins:acs ltJ e2.machs f.mach = e2.machs:=by rw [acs,if_pos hfo]
      repeat' (first|(refine zsk ?_;intro K' hK)|(refine zrg ?_;intro K' hK)|refine zsp ?_|(refine zsc ?_ ?_<;>intro hc<;>first|exact znh|try simp only [znz] at hc)|simp (maxSteps:=1000000) only [go_sem,mTs,g0,g1,g2,g3,e5,hw,f10,f13,gM,v1,u1,u3,u5,u6,Int.toNat_natCast]|(refine hK _ ?_;clear hK K')|apply zan|(apply aoQ;(focus exact rfl);(focus first|exact f9);(focus exact rfl);(focus exact rfl);(focus (first|exact rfl|(simp;done))))|(apply akp;(focus first|exact rfl|(simp only [upd,if_false, *];exact rfl));(focus first|exact rfl|decide|(simp [rA,rW];done)|(simp [rA,rW];omega)|omega);(focus first|exact rfl|decide|(simp [rA,rW];done)|(simp [rA,rW];omega)|omega);(focus first|exact f9);(focus exact rfl);(focus first|exact rfl|decide|(simp [rA,rW];done)|(simp [rA,rW];omega)|omega);(focus (first|exact rfl|(simp;done)));(focus exact rfl))|(apply wG;(focus exact rfl);(focus first|exact (z3 _ _ zsd zsd));(focus exact rfl);(focus exact rfl))|(apply xz;(focus exact rfl);(focus exact zrd);(focus exact zrd);(focus first|exact (z3 _ _ zsd zsd));(focus exact rfl);(focus exact rfl);(focus exact zrd))|(apply wD;(focus first|exact (z2 _ _ zsd zsd)))|(apply xy;(focus first|exact (z2 _ _ zsd zsd));(focus exact zrd))|((first|apply QJ|apply Jn);(focus first|exact (z0 _ _ zsd zsd).b))|exact zsq|fail)
      all_goals
       have wM':=wM.h
       refine hL _ (k + 1) (adc [0,1,2] (nmS 4 a2 (4 + 3 * a2) nM (4 + 3 * a2 + 2))) (by omega) (by omega) ?_
       rw [hm,← q2]
       refine aeH (N:=4) (es0:=es2) (e1:=vR f e2) (els:=(KG 4 es2).set a2 (.agg [V.int e2.num,.hd (4 + 3 * a2) 0 e2.hosts.length,.hd nM 0 e2.machs.length,.hd (4 + 3 * a2 + 2) 0 e2.finds.length])) [0,1,2] rfl rfl q5 (by omega) (adj rfl (by rw [zF];rfl) rfl rfl rfl rfl) (by simp) ?_ ?_ ?_ (fun k y h=>by simp at h) (fun j=>?_) (fun q y hq hq3 hy=>?_) ?_ ⟨.buf true 1 (e2.machs.map V.int),by simp only [upd,u5,if_false,if_true,gM],fun _=>by simp only [vR,if_neg hm0,hins]⟩ ?_ (by simp) (fun q hq=>?_) ?_ ?_ ?_ ?_ ?_
       ·simp only [zE,zH,upd,Nat.reduceEqDiff,if_false,if_true,u6,u7,u8];first|done|exact g0
       ·rw [jQ (e1:=vR f e2) q1 rfl,zF];simp only [zE,zH,upd,Nat.reduceEqDiff,if_false,if_true,u6,u7,u8];first|done|exact g1
       ·simp only [zE,zH,upd,Nat.reduceEqDiff,if_false,if_true,u6,u7,u8];first|done|rfl
       ·rw [f14]
        by_cases hj:j = a2
        ·rw [if_pos hj,if_pos hj];simp only [vR,if_neg hm0,hins,mhd];first|rfl|(rw [if_neg hne2];done)|(rw [if_neg hne3];done)
        ·rw [if_neg hj,if_neg hj]
       ·simp only [upd];(repeat rw [if_neg (by omega)]);exact hrow q y hy
       ·simp only [upd];(repeat rw [if_neg (by omega)]);exact hrow _ _ (by rw [XI,q1];rfl)
       ·simp only [upd];(repeat rw [if_neg (by omega)]);exact hrow _ _ (by rw [XH,q1];rfl)
       ·simp only [zo,zl,or_false] at hq ⊢;omega
       ·simp only [zo,zl,or_false];omega
       ·omega
       ·omega
       ·omega
       ·omega
structure Jl.Sm (c:Jl):Prop where
 h1:c.issuer.length < 2 ^ 60
 h2:c.subject.length < 2 ^ 60
 h3:c.names.length < 2 ^ 60
 h4:∀ x∈c.names,x.length < 2 ^ 60
def apU (a b id:Int) (l:List Jl):Bool:=match l with|[]=>true|c :: _=>((c.kalg == a && c.kbits == b) && (c.kid == id))
def aa4 (a b id:Int) (l:List Jl):Bool:=ajj a b 2 && (ahF id && (decide ((l.length:Int)≤8) && (l.all U8 && apU a b id l)))
theorem anc {a b id:Int} {l:List Jl} {c:Jl} (h:c∈l) (hc:U8 c = false):aa4 a b id l = false:=by
 have:l.all U8 = false:=Zo.2 ⟨c,h,by simp [hc]⟩
 simp [aa4,this]
theorem alF {α:Type} {p:α→Bool} {l:List α} {k:Nat} {x:α} (h:l[k]? = some x) (hp:(l.take k).all p = true) (hx:p x = true):(l.take (k + 1)).all p = true:=by
 rw [zJ,h,List.all_append,hp];simp [hx]
def Vw:=qd Proofs.Tryz.f60 [zhn 20]
def Kg (Γ:Env) (f:Nat):Prop:=∀ (a b id:Int) (l:List Jl) (hl:l.length < 2 ^ 60) (hs:∀ c∈l,c.Sm),EvN Γ f [.agg [V.int a,V.int b],V.int id,.sl 15 (l.map Jl.v)] (V.bool (aa4 a b id l))
attribute [local go_sem] List.getElem?_cons_zero zy Jl.cells Jl.v in
theorem acz {Γ:Env} {f:Nat} (h:Has Γ.P f 57 Vw.1.1.ac Vw.1.2) (z0:Yl Γ 67) (z1:Xo Γ 97) (z2:Yg Γ 63) (z3:Vj Γ 98):Kg Γ f:=by
 intro a b id l hl hs
 refine Qa h zsi zcl zcl fun C hC hm=>?_
 subst hC
 simp only [Vw,qd,DC.ac]
 have hlm:(l.map Jl.v).length = l.length:=zb _
 have no0:ajj a b 2 = false→aa4 a b id l = false:=fun h=>by simp [aa4,h]
 have no1:ahF id = false→aa4 a b id l = false:=fun h=>by simp [aa4,h]
 have no2:l.length > 8→aa4 a b id l = false:=fun h=>by
  have:decide ((l.length:Int)≤8) = false:=by simp;omega
  simp [aa4,this]
 rcases hu:ajj a b 2 with _|_
 ·rw [no0 hu]
  unfold ajj at hu
  rcases hq:decide (Qv a b > 0) with _|_
  ·(have zx:=hq);exact zg
  ·rw [hq,zP] at hu
   have hu2:((Wh a).kind != 2) = true:=by simpa using hu
   (have zx:=za hq hu2);exact zg
 have hq:decide (Qv a b > 0) = true:=by unfold ajj at hu;simp at hu;simpa using hu.1
 have hu2:((Wh a).kind != 2) = false:=by unfold ajj at hu;simp at hu;simpa using hu.2
 have hk:=(z2 id).b
 rcases hk1:ahF id with _|_
 ·rw [no1 hk1]
  rw [hk1] at hk
  (have zx:=za hq hu2);exact zg
 rw [hk1] at hk
 by_cases h8:l.length > 8
 ·have e8:decide ((l.length:Int) > 8) = true:=by simp;omega
  rw [no2 h8]
  (have zx:=za hq (za hu2 (za hlm e8)));exact zg
 have e8:decide ((l.length:Int) > 8) = false:=by simp;omega
 have e8':decide ((l.length:Int)≤8) = true:=by simp;omega
 (have zx:=za hq (za hu2 (za hlm e8)));refine zgo ?_;repeat' first|exact zt|apply zan|intro hc
 refine Jg (ι:=Nat) (fun k=>k≤l.length∧(l.take k).all U8 = true) (fun k=>[(30,V.int k)]) (fun k=>l.length - k) 0 (by omega) ⟨zA _,rfl⟩ zol zlt zet fun k hk K' hL=>?_
 obtain ⟨hk,hinv⟩:=hk
 simp only [ovT,Yr,Nat.reduceEqDiff,reduceIte]
 rcases hd:l.drop k with _|⟨c,r⟩
 ·have hkl:=Qr hd
  have e1:decide ((k:Int) < ((l.length:Nat):Int)) = false:=by simp;omega
  have hall:l.all U8 = true:=by rwa [zi hkl] at hinv
  have hfin:aa4 a b id l = apU a b id l:=by rw [aa4,hu,hk1,e8',hall];rfl
  rw [hfin]
  clear hfin
  rcases l with _|⟨c,r⟩
  ·rw [show apU a b id [] = true from rfl]
   (have zx:=za e1 hlm);exact zg
  ·have e9:((((c :: r).length:Nat):Int) == 0) = false:=by simp;omega
   have e1b:decide ((k:Int) < ((r.length + 1:Nat):Int)) = false:=e1
   have e9b:(((r.length + 1:Nat):Int) == 0) = false:=e9
   rw [apU]
   (have zx:=za e1 (za e1b (za hlm (za e9 e9b))));refine zgo ?_;repeat' first|exact zt|apply zan|intro hc
   all_goals first|exact zr|(refine Qi _ rfl ?_;simp only [go_sem];simp [*];done)
 ·obtain ⟨hk',hget,hr⟩:=Qk hd
  have hw:=Qg (k:=k) (by omega)
  have e1:decide ((k:Int) < ((l.length:Nat):Int)) = true:=by simp;omega
  have hm:=zq hget
  have sm:=hs c hm
  have hce:=(z3 c sm.h1 sm.h2 sm.h3 sm.h4).b
  simp only [Jl.v,Jl.cells] at hce
  rcases hcb:U8 c with _|_
  ·rw [anc hm hcb]
   rw [hcb,if_neg (by decide)] at hce
   (have zx:=za e1 (za hw (za hlm hget)));exact zg
  ·rw [hcb,if_pos rfl] at hce
   (have zx:=za e1 (za hw (za hlm hget)));refine zgo ?_;repeat' first|exact zt|apply zan|intro hc
   all_goals exact hL _ (k + 1) zet ⟨by omega,alF hget hinv hcb⟩ (by omega) zoe
end Av
end
