/- W23 -/
import Derived.Test.YtlpaikjhphkioaaGreatW20
import Derived.Test.YtlpaikjhphkioaaGreatW22
import Derived.Test.YtlpaikjhphkioaaGreatW12
import Derived.Test.YtlpaikjhphkioaaGreatW14
set_option linter.unusedVariables false
set_option linter.unusedSimpArgs false
noncomputable section
set_option maxRecDepth 10000
set_option maxHeartbeats 4000000
namespace Av
open Go
attribute [local irreducible] AWp Vy K7 jE awS awC aaG awQ abg QW Uc vZ awR Uj awB okR jt ris
section
variable {C:Ctx} {nt:Nat} {s:St} {K:St→Prop} {E:Nat→St→Prop} {R:St→Prop}
theorem aiR {x:AC} {ι:Type} (good:ι→Prop) (mid:ι→St) (pre:St→St) (h:∀ K':St→Prop,(∀ s' i τ,good i→ahQ C.m τ (pre s') (mid i)→K' s')→AWp C nt x s K' E R) (h':∀ i,good i→∀ s' τ,ahQ C.m τ (pre s') (mid i)→K s'):AWp C nt x s K E R:=h K fun s' i τ g w=>h' i g s' τ w
end
def yK (f:Qa) (e:QR):QR:={ e with machs:=if f.mach = 0 then e.machs else aaU ltJ e.machs f.mach }
def arn (l:List Qa) (p:List Nat) (k:Nat) (f:Qa) (q:List QR×Nat×QR):Prop:=q.1[q.2.1]? = some q.2.2∧q.1.set q.2.1 (yK f q.2.2) = Yl l p (k + 1)∧q.1.length≤400∧q.2.2.machs.length≤400
def nmS (N a H M F q:Nat):Nat:=if q = 3 * a then H else if q = 3 * a + 1 then M else if q = 3 * a + 2 then F else N + q
theorem abX {s:St} {ts:List (Nat×V)} {p K W:List Nat} {fx:List Ob} {es0 es1:List QR} {e1:QR} {N a H M F:Nat} {els:List V} (x:List Nat) (hes:es1 = es0.set a e1) (hx:x.length = 3 + fx.length) (ha:a < es0.length) (hlen:es0.length≤400)
  (ht:∀ q∈ts,s.t q.1 = q.2.ren (aau x (nmS N a H M F))∧q.2.lt 2000) (hfl:fx.length≤1)
  (h0:s.o (x.getD 0 0) = some (.box true (Qv p))) (h1:s.o (x.getD 1 0) = some (.map (Qv K) (Qv W) 0)) (h2:s.o (x.getD 2 0) = some (.obuf true 4 els))
  (hfx:∀ k y,fx[k]? = some y→∃ z,s.o (x.getD (3 + k) 0) = some z∧z.weak (aau x (nmS N a H M F)) 2000 y)
  (hels:∀ j,els[j]? = if j = a then some (.agg [V.int e1.num,.hd H 0 e1.hosts.length,mhd M e1.machs,.hd F 0 e1.finds.length]) else (V9 N es0)[j]?)
  (hfar:∀ q y,q < 3 * es0.length→q / 3≠a→(aat es0)[q]? = some y→s.o (N + q) = some y)
  (hH:s.o H = some (.buf true 1 (e1.hosts.map V.str))) (hM:∃ y,s.o M = some y∧(e1.machs≠[]→y = .buf true 1 (e1.machs.map V.int))) (hF:s.o F = some (.buf true 1 (Qv e1.finds)))
  (hn:x.Nodup) (hxn:∀ q,q < 3 * es0.length→N + q ∉ x) (hHx:H ∉ x∧M ∉ x∧F ∉ x) (hd:H≠M∧H≠F∧M≠F)
  (hHN:H = N + 3 * a∨H < N∨N + 3 * es0.length≤H) (hMN:M = N + (3 * a + 1)∨M < N∨N + 3 * es0.length≤M) (hFN:F = N + (3 * a + 2)∨F < N∨N + 3 * es0.length≤F) :
  ahQ 0 (aau x (nmS N a H M F)) s { t:=UC ts,o:=fun k=>(eO p K W fx es1)[k]?,n:=2000 }:=by
 subst hes
 have a0:nmS N a H M F (3 * a) = H:=by rw [nmS,if_pos rfl]
 have a1:nmS N a H M F (3 * a + 1) = M:=by rw [nmS,if_neg (by omega),if_pos rfl]
 have a2:nmS N a H M F (3 * a + 2) = F:=by rw [nmS,if_neg (by omega),if_neg (by omega),if_pos rfl]
 have a3:∀ q,q / 3≠a→nmS N a H M F q = N + q:=fun q hq=>by rw [nmS,if_neg (by omega),if_neg (by omega),if_neg (by omega)]
 have b1:∀ q,q / 3 = a→(q = 3 * a∨q = 3 * a + 1∨q = 3 * a + 2):=fun q hq=>by omega
 have gt:∀ j,(es0.set a e1)[j]? = if j = a then some e1 else es0[j]?:=fun j=>by
  rw [ke]
  by_cases hj:a = j
  ·subst hj;rw [if_pos rfl,if_pos ha,if_pos rfl]
  ·rw [if_neg hj,if_neg (fun e=>hj e.symm)]
 refine ahU (n:=2000) (by rw [zP];omega) x _ els hx ht h0 h1 (.inl h2) hfx (fun j=>?_) (fun j e he=>?_) hn (fun q hq=>?_) (fun c d hc hd' hcd=>?_)
 ·rw [hels,gt]
  by_cases hj:j = a
  ·subst hj;rw [if_pos rfl,if_pos rfl,a0,a1,a2];rfl
  ·rw [if_neg hj,if_neg hj,WI,a3 _ (by omega),a3 _ (by omega),a3 _ (by omega)]
   cases es0[j]? with
   | none=>rfl
   | some e=>simp only [Option.map_some,QR.own,kL]
 ·rw [gt] at he
  by_cases hj:j = a
  ·subst hj
   rw [if_pos rfl] at he;cases he
   rw [a0,a1,a2]
   exact ⟨hH,hM,hF⟩
  ·rw [if_neg hj] at he
   have hjl:=(zn.1 he).1
   rw [a3 _ (by omega),a3 _ (by omega),a3 _ (by omega)]
   refine ⟨hfar _ _ (by omega) (by omega) (by rw [YK,he];rfl),⟨mob e.machs,hfar _ _ (by omega) (by omega) (by rw [WH,he];rfl),fun hne=>by rw [mob,if_neg hne]⟩,hfar _ _ (by omega) (by omega) (by rw [YJ,he];rfl)⟩
 ·rw [zP] at hq
  by_cases hqa:q / 3 = a
  ·rcases b1 q hqa with rfl|rfl|rfl
   ·rw [a0];exact hHx.1
   ·rw [a1];exact hHx.2.1
   ·rw [a2];exact hHx.2.2
  ·rw [a3 q hqa];exact hxn q hq
 ·rw [zP] at hc hd'
  obtain ⟨d1,d2,d3⟩:=hd
  by_cases hca:c / 3 = a<;>by_cases hda:d / 3 = a
  ·rcases b1 c hca with rfl|rfl|rfl<;>rcases b1 d hda with rfl|rfl|rfl<;>simp only [a0,a1,a2] at hcd<;>omega
  ·rw [a3 d hda] at hcd
   rcases b1 c hca with rfl|rfl|rfl<;>simp only [a0,a1,a2] at hcd<;>omega
  ·rw [a3 c hca] at hcd
   rcases b1 d hda with rfl|rfl|rfl<;>simp only [a0,a1,a2] at hcd<;>omega
  ·rw [a3 c hca,a3 d hda] at hcd;omega
def am5 (l:List Qa) (gap:Int):V:=if J0 l gap = 0 then .tup [.sl 4 ((JJ l gap).map QR.v),V.int 0] else .tup [.sl 4 [],V.int (J0 l gap)]
def eTs (l:List Qa) (n k:Nat):List (Nat×V):=[(7,.ptr 0 0),(8,.hd 2 0 n),(9,.mp 1),(24,.sl 11 (l.map Qa.v)),(25,V.int l.length),(26,V.int k)]
def eSt (l:List Qa) (p:List Nat) (es:List QR) (k:Nat):St:={ t:=UC (eTs l es.length k),o:=fun a=>(eO p (es.map QR.num) (List.range es.length) [] es)[a]?,n:=2000 }
def mTs (l:List Qa) (n a k:Nat):List (Nat×V):=[(7,.ptr 0 0),(8,.hd 2 0 n),(9,.mp 1),(11,.ptr 3 0),(13,.ept 2 a 0),(24,.sl 11 (l.map Qa.v)),(25,V.int l.length),(26,V.int k)]
def mSt (l:List Qa) (p:List Nat) (es:List QR) (f:Qa) (a k:Nat):St:={ t:=UC (mTs l es.length a k),o:=fun x=>(eO p (es.map QR.num) (List.range es.length) [.box true f.cells] es)[x]?,n:=2000 }
theorem ac7 (n:Nat):Qv (List.range n)++[V.int (n:Int)] = Qv (List.range (n + 1)):=by rw [Kb,ZG]
theorem aia {o:Nat→Option Ob}:∀ (es:List QR) (n:Nat),(∀ q y,(aat es)[q]? = some y→o (n + q) = some y)→Jf o [] none (V9 n es) (es.map QR.v)
 | [],_,_=>trivial
 | e :: r,n,h=>by
   have h0:=h 0 _ rfl
   have h1:=h 1 _ rfl
   have h2:=h 2 _ rfl
   refine ⟨⟨rfl,?_,?_,?_,trivial⟩,aia r (n + 3) fun q y hq=>?_⟩
   ·rw [ahG];exact ⟨trivial,by simp,.inl ⟨true,_,h0,by rw [kK,zl (by simp)]⟩⟩
   ·unfold mhd
    split
    ·rename_i hm;rw [hm];rfl
    ·rename_i hm
     rw [mob,if_neg hm] at h1
     rw [ahG];exact ⟨trivial,by simp,.inl ⟨true,_,h1,by rw [kK,zl (by simp)]⟩⟩
   ·rw [ahG];exact ⟨trivial,by simp,.inl ⟨true,_,h2,by rw [kK,zl (by rw [Jr];exact zh _)]⟩⟩
   ·rw [show n + 3 + q = n + (q + 1 + 1 + 1) by omega]
    exact h (q + 1 + 1 + 1) y (by simpa [aat] using hq)
theorem alA:∀ es:List QR,ntL (es.map QR.v)
 | []=>trivial
 | e :: r=>⟨by simp [QR.v],alA r⟩
theorem aaz:∀ es:List QR,Qc (es.map QR.v)
 | []=>trivial
 | e :: r=>⟨by simp only [QR.v,V.closed,Qc,and_self],aaz r⟩
theorem akZ {t:Nat→V} {l:List Qa} {n a k:Nat} {τ:Nat→Nat} (h7:t 7 = .ptr (τ 0) 0) (h8:t 8 = .hd (τ 2) 0 n) (h9:t 9 = .mp (τ 1)) (h11:t 11 = .ptr (τ 3) 0) (h13:t 13 = .ept (τ 2) a 0) (h24:t 24 = .sl 11 (l.map Qa.v)) (h25:t 25 = V.int l.length) (h26:t 26 = V.int k):∀ q∈mTs l n a k,t q.1 = q.2.ren τ∧q.2.lt 2000:=by
 intro q hq
 simp only [mTs,zC,zI,or_false] at hq
 rcases hq with rfl|rfl|rfl|rfl|rfl|rfl|rfl|rfl
 ·exact ⟨h7,by show 0 < 2000;omega⟩
 ·exact ⟨h8,by show 2 < 2000;omega⟩
 ·exact ⟨h9,by show 1 < 2000;omega⟩
 ·exact ⟨h11,by show 3 < 2000;omega⟩
 ·exact ⟨h13,by show 2 < 2000;omega⟩
 ·exact ⟨h24,trivial⟩
 ·exact ⟨h25,trivial⟩
 ·exact ⟨h26,trivial⟩
theorem aaC {t:Nat→V} {l:List Qa} {n k:Nat} {τ:Nat→Nat} (h7:t 7 = .ptr (τ 0) 0) (h8:t 8 = .hd (τ 2) 0 n) (h9:t 9 = .mp (τ 1)) (h24:t 24 = .sl 11 (l.map Qa.v)) (h25:t 25 = V.int l.length) (h26:t 26 = V.int k):∀ q∈eTs l n k,t q.1 = q.2.ren τ∧q.2.lt 2000:=by
 intro q hq
 simp only [eTs,zC,zI,or_false] at hq
 rcases hq with rfl|rfl|rfl|rfl|rfl|rfl
 ·exact ⟨h7,by show 0 < 2000;omega⟩
 ·exact ⟨h8,by show 2 < 2000;omega⟩
 ·exact ⟨h9,by show 1 < 2000;omega⟩
 ·exact ⟨h24,trivial⟩
 ·exact ⟨h25,trivial⟩
 ·exact ⟨h26,trivial⟩
theorem aoT {o:Nat→Option Ob} {f:Qa} {τ:Nat→Nat} {n x3:Nat} {x:List Nat} (hx:x.getD 3 0 = x3) (h:o x3 = some (.box true f.cells)):∀ k y,[Ob.box true f.cells][k]? = some y→∃ z,o (x.getD (3 + k) 0) = some z∧z.weak τ n y:=by
 intro k y hy
 match k,hy with
 | 0,hy =>
   simp only [List.getElem?_cons_zero,zf] at hy
   subst hy
   rw [hx]
   exact ⟨_,h,id,(Q8 _ _ (by simp only [Qa.cells,V.closed,Qc,and_self])).symm,Yw _ _ (by simp only [Qa.cells,V.closed,Qc,and_self])⟩
def YF:=qd Proofs.Tryz.f57 [⟨fun _=>false,[4,6,7],.one 0 (.one 1 (.one 2 (.one 3 (.one 5 (.or 4 (.one 6 (.one 7 (.one 8 (.one 9 (.one 10 (.done)))))) (.or 6 (.one 4 (.one 7 (.one 8 (.one 9 (.one 10 (.done)))))) (.done)))))))⟩,⟨fun _=>false,[5,7,8,12],.one 0 (.one 1 (.one 2 (.one 3 (.one 4 (.one 6 (.one 9 (.one 10 (.one 11 (.one 13 (.one 14 (.or 5 (.or 7 (.or 8 (.one 12 (.one 15 (.one 16 (.one 17 (.one 18 (.one 19 (.one 20 (.one 21 (.done))))))))) (.or 12 (.one 8 (.one 15 (.one 16 (.one 17 (.one 18 (.one 19 (.one 20 (.one 21 (.done))))))))) (.done))) (.or 12 (.one 7 (.one 8 (.one 15 (.one 16 (.one 17 (.one 18 (.one 19 (.one 20 (.one 21 (.done)))))))))) (.done))) (.or 7 (.or 5 (.or 8 (.one 12 (.one 15 (.one 16 (.one 17 (.one 18 (.one 19 (.one 20 (.one 21 (.done))))))))) (.or 12 (.one 8 (.one 15 (.one 16 (.one 17 (.one 18 (.one 19 (.one 20 (.one 21 (.done))))))))) (.done))) (.or 12 (.one 5 (.one 8 (.one 15 (.one 16 (.one 17 (.one 18 (.one 19 (.one 20 (.one 21 (.done)))))))))) (.done))) (.or 12 (.or 5 (.one 7 (.one 8 (.one 15 (.one 16 (.one 17 (.one 18 (.one 19 (.one 20 (.one 21 (.done)))))))))) (.or 7 (.one 5 (.one 8 (.one 15 (.one 16 (.one 17 (.one 18 (.one 19 (.one 20 (.one 21 (.done)))))))))) (.done))) (.done))))))))))))))⟩]
def XT (Γ:Env) (f:Nat):Prop:=∀ (l:List Qa) (gap:Int) (hl:l.length < 2 ^ 40) (hz:∀ x∈l,x.Sz),EvC Γ f [.sl 11 (l.map Qa.v),V.int gap] (am5 l gap)
attribute [local go_sem] eSt eTs mTs in
theorem yH {Γ:Env} {f:Nat} (h:Has Γ.P f 86 YF.1.1.ac YF.1.2) (z0:VS Γ 83) (z2:Vi Γ 84) (z3:JN Γ 85) (z4:Yj Γ 86) (z5:YU Γ 87):XT Γ f:=by
 intro l gap hl hz
 refine Jt h zsi (by unfold am5;split<;>simp only [V.closed,Qc,and_self]) fun C hC hm=>?_
 subst hC
 simp only [YF,qd,DC.ac]
 have hm:C.m = 0:=by simpa using hm
 obtain ⟨sX,sI,sW⟩:=z4
 obtain ⟨iX,iI,iW⟩:=z5
 have p0:=(z0 l gap hl hz).b
 by_cases hE:J0 l gap = 0
 rotate_left
 ·rw [am5,if_neg hE]
  have e01:(J0 l gap != 0) = true:=by simpa using hE
  generalize J0 l gap = er at *
  (have zx:=e01);refine zgo ?_;repeat' first|exact zt|apply zan|intro hc
  all_goals exact zr
 obtain ⟨hl4,hd⟩:=am9 hE
 rw [hE] at p0
 have p1:=z2 l gap hl4 hd
 have hp:=xR l gap
 have hent:JJ l gap = Yl l (xS l gap) l.length:=rfl
 rw [am5,if_pos hE,hent]
 generalize xS l gap = p at *
 have e00:((0:Int) != 0) = false:=by decide
 (have zx:=e00);refine zgo ?_;repeat' first|exact zt|apply zan|intro hc
 have t0:aau [10000,13000,12000] id 0 = 10000:=rfl
 have t1:aau [10000,13000,12000] id 1 = 13000:=rfl
 have t2:aau [10000,13000,12000] id 2 = 12000:=rfl
 refine Qp (ι:=Nat) (fun k=>k≤l.length) (fun k=>eSt l p (Yl l p k) k) (fun k=>l.length - k) 0 (zG _) (aau [10000,13000,12000] id) ?_ fun k hk K' hL=>?_
 ·rw [hm]
  refine ahU (by simp [Yl]) [10000,13000,12000] id [] rfl ?_ rfl rfl (.inr ⟨rfl,rfl⟩) (fun k y h=>by simp at h) (fun j=>by simp [Yl]) (fun j e h=>by simp [Yl] at h) (by simp) (fun q hq=>by simp [Yl] at hq) (fun a b ha=>by simp [Yl] at ha)
  simp only [go_sem,zwl,eTs,Yl,t0,t1,t2,zb]
 clear t0 t1 t2
 have hI:=qG (l:=l) hp k hk
 rcases hdr:l.drop k with _|⟨f,r⟩
 ·have hkl:=Qt hdr
  have e1:decide ((k:Int) < (l.length:Int)) = false:=by simp;omega
  obtain rfl:k = l.length:=by omega
  generalize Yl l p l.length = es at *
  (have zx:=e1);refine zgo ?_;repeat' first|exact zt|apply zan|intro hc
  all_goals
   refine Ql _ rfl ⟨?_,rfl,trivial⟩
   show conv _ _ _ (.hd 2 0 es.length) (.sl 4 (es.map QR.v))
   rw [ahG]
   refine ⟨trivial,by simp,.inr ⟨true,V9 3 es,rfl,?_,alA es,aaz es⟩⟩
   rw [kK,zl (by rw [Wi];exact zh _)]
   exact aia es 3 fun q y hq=>(jY p _ _ [] es q).trans hq
 obtain ⟨hk',hget,hr⟩:=Qm hdr
 have hw:=Qg (k:=k) (by omega)
 have e1:decide ((k:Int) < (l.length:Int)) = true:=by simp;omega
 have hsu:=acy (p:=p) hget
 generalize Yl l p k = es at *
 have n1:=z3 p k hp (by omega)
 by_cases hk0:Qn p k = k
 ·rw [hk0] at n1
  have e2:((k:Int) == (k:Int)) = true:=by simp
  have g0:(eO p (es.map QR.num) (List.range es.length) [] es)[0]? = some (.box true (Qv p)):=rfl
  have g1:(eO p (es.map QR.num) (List.range es.length) [] es)[1]? = some (.map (Qv (es.map QR.num)) (Qv (List.range es.length)) 0):=rfl
  have g2:(eO p (es.map QR.num) (List.range es.length) [] es)[2]? = some (.obuf true 4 (V9 3 es)):=rfl
  have hnum:∀ x∈es.map QR.num,x≠k:=fun x hx=>by
   obtain ⟨e,he,rfl⟩:=zD.1 hx
   have:=(hI.sz e he).num
   omega
  have f1:=yz k (es.map QR.num) 0
  rw [afZ hnum] at f1
  have f2:=yz k (es.map QR.num++[k]) 0
  rw [aew hnum,ky,zb] at f2
  have f3:=acw (k:Int)
  have f4:=Kb (es.map QR.num) k
  have f5:=Kb (List.range es.length) es.length
  have f6:(Qv (List.range es.length++[es.length]))[es.length]? = some (V.int (es.length:Nat)):=J6 (by simp)
  have f7:List.take es.length (V9 3 es) = V9 3 es:=zl (by rw [Wi];exact zh _)
  have f8:=Wi es 3
  have hel:=hI.len
  repeat' (first|(refine zsk ?_;intro K' hK)|refine zsp ?_|(refine zsc ?_ ?_<;>intro hc<;>first|exact znh|try simp only [znz] at hc)|simp (maxSteps:=1000000) only [go_sem,eSt,eTs,e1,e2,g0,g1,g2,f1,f2,f3,f4,f5,f6,f7,f8,Int.toNat_natCast,zi,hget,Qa.v,Qa.cells]|(refine hK _ ?_;clear hK K')|apply zan|(apply Ko;(focus exact rfl);(focus first|exact n1|exact (z3 _ _ zsd zsd));(focus exact rfl);(focus exact rfl))|(apply j6;(focus first|exact (z2 _ _ zsd zsd)))|(apply Qr;(focus first|exact (z0 _ _ zsd zsd).b))|exact zsq|fail)
  refine aiR (ι:=List QR×Nat×QR) (arn l p k f) (fun q=>mSt l p q.1 f q.2.1 k) (fun s=>s.keep [7,8,9,11,13,24,25,26]) (fun K2 hK2=>?_) (fun q hq s' τ hwk=>?_)
  ·have f9:=sW f.host
   have f10:(V9 3 es++[V.agg [V.int k,wW,wW,wW]])[es.length]? = some (V.agg [V.int k,wW,wW,wW]):=by
    rw [ki (by rw [f8];exact zh _),f8,kD];rfl
   have f13:∀ v:V,((V9 3 es++[V.agg [V.int k,wW,wW,wW]]).set es.length v)[es.length]? = some v:=fun v=>by rw [ke];simp [f8]
   have f14:∀ j v,((V9 3 es++[V.agg [V.int k,wW,wW,wW]]).set es.length v)[j]? = if j = es.length then some v else (V9 3 es)[j]?:=fun j v=>by
    rw [ke]
    by_cases hj:es.length = j
    ·subst hj;simp [f8]
    ·rw [if_neg hj,if_neg (fun e=>hj e.symm)]
     by_cases hj2:j < es.length
     ·rw [ka (by rw [f8];exact hj2)]
     ·rw [zW (by simp [f8];omega),zW (by rw [f8];omega)]
   generalize V9 3 es++[V.agg [V.int k,wW,wW,wW]] = L at *
   have f15:∀ v w:V,(L.set es.length v).set es.length w = L.set es.length w:=fun v w=>List.set_set ..
   repeat' (first|(refine zsk ?_;intro K' hK)|(refine zrg ?_;intro K' hK)|refine zsp ?_|(refine zsc ?_ ?_<;>intro hc<;>first|exact znh|try simp only [znz] at hc)|simp (maxSteps:=1000000) only [go_sem,f8,f10,f13,f15,Int.toNat_natCast]|(refine hK _ ?_;clear hK K')|apply zan|(apply Ko;(focus exact rfl);(focus first|exact (z3 _ _ zsd zsd));(focus exact rfl);(focus exact rfl))|(apply VJ;(focus exact rfl);(focus exact zrd);(focus exact zrd);(focus first|exact (z3 _ _ zsd zsd));(focus exact rfl);(focus exact rfl);(focus exact zrd))|(apply j6;(focus first|exact (z2 _ _ zsd zsd)))|((first|apply wJ|apply j8);(focus first|exact f9))|(apply jc;(focus first|exact (z2 _ _ zsd zsd));(focus exact zrd))|((first|apply Qr|apply Qy);(focus first|exact (z0 _ _ zsd zsd).b))|exact zsq|fail)
   all_goals
    refine hK2 _ (es++[QU k f ⟨k,[],[],[]⟩],es.length,QU k f ⟨k,[],[],[]⟩) (aau [0,1,25000,6000] (nmS 3 es.length 41000 2 48000)) ⟨?_,?_,?_,?_⟩ ?_
    ·simp only;rw [ki (zh _),kD];rfl
    ·simp only;rw [hsu,aeR,if_pos hk0,ZI _ _ (zh _),kD];rfl
    ·simp only [zv,List.length_singleton];omega
    ·simp only [QU,List.length_nil];omega
    rw [hm]
    refine abX (es0:=es++[⟨k,[],[],[]⟩]) (e1:=QU k f ⟨k,[],[],[]⟩) (els:=L.set es.length (V.agg [V.int k,V.hd 41000 0 1,wW,V.hd 48000 0 1])) [0,1,25000,6000] ?_ rfl (by simp) (by simp;omega) (akZ rfl (by rw [zv];rfl) rfl rfl rfl rfl rfl rfl) (by simp) rfl ?_ rfl (aoT rfl rfl) (fun j=>?_) (fun q y hq hq3 hy=>?_) ?_ ⟨_,rfl,fun hne=>(hne rfl).elim⟩ rfl (by simp) (fun q hq=>?_) (by simp) (by omega) ?_ ?_ ?_
    ·simp only;rw [ZI _ _ (zh _),kD];rfl
    ·rw [kz,zv,List.length_singleton,ZG];rfl
    ·rw [f14]
     by_cases hj:j = es.length
     ·rw [if_pos hj,if_pos hj]
      simp only [QU,abq,mhd];rfl
     ·rw [if_neg hj,if_neg hj,WI,WI]
      by_cases hj2:j < es.length
      ·rw [ka hj2]
      ·rw [zW (by omega),zW (by simp;omega)]
    ·have hj:q / 3 < es.length:=by simp only [zv,List.length_singleton] at hq;omega
     simp only [St.keep,upd]
     repeat rw [if_neg (by omega)]
     rw [show 3 + q = 3 + ([]:List Ob).length + q from rfl,jY]
     rw [← hy,ah1,ka (by rw [yR];omega)]
    ·simp only [QU,abq];rfl
    ·simp only [zC,zI,or_false,zv,List.length_singleton] at hq ⊢;omega
    ·right;right;simp;omega
    ·right;left;omega
    ·right;right;simp;omega
  ·obtain ⟨es2,a2,e2⟩:=q
   obtain ⟨q1,q2,q3,q4⟩:=hq
   simp only at q1 q2 q3 q4 hwk ⊢
   refine abt hwk ?_
   clear hwk
   have q5:=(zn.1 q1).1
   have g0:(eO p (es2.map QR.num) (List.range es2.length) [.box true f.cells] es2)[0]? = some (.box true (Qv p)):=rfl
   have g1:(eO p (es2.map QR.num) (List.range es2.length) [.box true f.cells] es2)[1]? = some (.map (Qv (es2.map QR.num)) (Qv (List.range es2.length)) 0):=rfl
   have g2:(eO p (es2.map QR.num) (List.range es2.length) [.box true f.cells] es2)[2]? = some (.obuf true 4 (V9 4 es2)):=rfl
   have g3:(eO p (es2.map QR.num) (List.range es2.length) [.box true f.cells] es2)[3]? = some (.box true f.cells):=rfl
   simp only [mSt]
   generalize hEO:eO p (es2.map QR.num) (List.range es2.length) [.box true f.cells] es2 = EO at g0 g1 g2 g3 ⊢
   simp only [Qa.cells] at g3
   have hrow:∀ q y,(aat es2)[q]? = some y→EO[4 + q]? = some y:=fun q y h=>by
    rw [← hEO,show 4 + q = 3 + [Ob.box true f.cells].length + q from rfl,jY];exact h
   have wEO:ZW (eO p (es2.map QR.num) (List.range es2.length) [.box true f.cells] es2 = EO):=⟨hEO⟩
   clear hEO
   by_cases hm0:f.mach = 0
   ·have e5:(f.mach != 0) = false:=by simpa using hm0
    (have zx:=za g0 (za g1 (za g2 (za g3 (za e5 hw)))));refine zgo ?_;repeat' first|exact zt|apply zan|intro hc
    all_goals
     refine hL _ (k + 1) (aau [0,1,2] (nmS 4 a2 (4 + 3 * a2) (4 + 3 * a2 + 1) (4 + 3 * a2 + 2))) (by omega) (by omega) ?_
     rw [hm,← q2]
     refine abX (N:=4) (es0:=es2) (e1:=yK f e2) (els:=V9 4 es2) [0,1,2] rfl rfl q5 (by omega) (aaC rfl (by rw [zP];rfl) rfl rfl rfl rfl) (by simp) ?_ ?_ ?_ (fun k y h=>by simp at h) (fun j=>?_) (fun q y hq hq3 hy=>?_) ?_ ⟨mob e2.machs,hrow _ _ (by rw [WH,q1];rfl),fun hne=>by rw [yK,if_pos hm0] at hne ⊢;rw [mob,if_neg hne]⟩ ?_ (by simp) (fun q hq=>?_) ?_ ?_ ?_ ?_ ?_
     ·exact g0
     ·rw [K6 (e1:=yK f e2) q1 rfl,zP];exact g1
     ·first|exact g2|rfl
     ·rw [WI]
      by_cases hj:j = a2
      ·rw [if_pos hj,hj,q1];simp only [Option.map_some,QR.own,yK,if_pos hm0]
      ·rw [if_neg hj]
     ·exact hrow q y hy
     ·exact hrow _ _ (by rw [YK,q1];rfl)
     ·exact hrow _ _ (by rw [YJ,q1];rfl)
     ·simp only [zC,zI,or_false] at hq ⊢;omega
     ·simp only [zC,zI,or_false];omega
     ·omega
     ·omega
     ·omega
     ·omega
   ·have e5:(f.mach != 0) = true:=by simpa using hm0
    have f8:=Wi es2 4
    have f13:∀ v:V,((V9 4 es2).set a2 v)[a2]? = some v:=fun v=>by rw [ke,if_pos rfl,if_pos (by rw [f8];exact q5)]
    have f14:∀ j (v:V),((V9 4 es2).set a2 v)[j]? = if j = a2 then some v else (V9 4 es2)[j]?:=fun j v=>by
     rw [ke]
     by_cases hj:a2 = j
     ·subst hj;rw [if_pos rfl,if_pos (by rw [f8];exact q5),if_pos rfl]
     ·rw [if_neg hj,if_neg (fun e=>hj e.symm)]
    by_cases hne2:e2.machs = []
    ·have f10:(V9 4 es2)[a2]? = some (.agg [V.int e2.num,.hd (4 + 3 * a2) 0 e2.hosts.length,wW,.hd (4 + 3 * a2 + 2) 0 e2.finds.length]):=by rw [WI,q1];simp only [Option.map_some,QR.own,mhd,if_pos hne2]
     have f9:=iW f.mach
     have hins:aaU ltJ e2.machs f.mach = [f.mach]:=by rw [hne2,abq]
     have hne3:¬ ([f.mach]:List Int) = []:=by simp
     (have zx:=za g0 (za g1 (za g2 (za g3 (za e5 (za hw (za f10 f13)))))));refine zgo ?_;repeat' first|exact zt|apply zan|intro hc
     all_goals
      refine hL _ (k + 1) (aau [0,1,2] (nmS 4 a2 (4 + 3 * a2) 12000 (4 + 3 * a2 + 2))) (by omega) (by omega) ?_
      rw [hm,← q2]
      refine abX (N:=4) (es0:=es2) (e1:=yK f e2) (els:=(V9 4 es2).set a2 (.agg [V.int e2.num,.hd (4 + 3 * a2) 0 e2.hosts.length,.hd 12000 0 1,.hd (4 + 3 * a2 + 2) 0 e2.finds.length])) [0,1,2] rfl rfl q5 (by omega) (aaC rfl (by rw [zP];rfl) rfl rfl rfl rfl) (by simp) ?_ ?_ ?_ (fun k y h=>by simp at h) (fun j=>?_) (fun q y hq hq3 hy=>?_) ?_ ⟨_,rfl,fun _=>by simp only [yK,if_neg hm0,hins];rfl⟩ ?_ (by simp) (fun q hq=>?_) ?_ ?_ ?_ ?_ ?_
      ·simp only [zM,zS,upd,Nat.reduceEqDiff,if_false,if_true];first|done|exact g0
      ·rw [K6 (e1:=yK f e2) q1 rfl,zP];simp only [zM,zS,upd,Nat.reduceEqDiff,if_false,if_true];first|done|exact g1
      ·simp only [zM,zS,upd,Nat.reduceEqDiff,if_false,if_true];first|done|rfl
      ·rw [f14]
       by_cases hj:j = a2
       ·rw [if_pos hj,if_pos hj];simp only [yK,if_neg hm0,hins,mhd];first|rfl|(rw [if_neg hne2];done)|(rw [if_neg hne3];done)
       ·rw [if_neg hj,if_neg hj]
      ·simp only [upd];(repeat rw [if_neg (by omega)]);exact hrow q y hy
      ·simp only [upd];(repeat rw [if_neg (by omega)]);exact hrow _ _ (by rw [YK,q1];rfl)
      ·simp only [upd];(repeat rw [if_neg (by omega)]);exact hrow _ _ (by rw [YJ,q1];rfl)
      ·simp only [zC,zI,or_false] at hq ⊢;omega
      ·simp only [zC,zI,or_false];omega
      ·omega
      ·omega
      ·omega
      ·omega
    ·have f10:(V9 4 es2)[a2]? = some (.agg [V.int e2.num,.hd (4 + 3 * a2) 0 e2.hosts.length,.hd (4 + 3 * a2 + 1) 0 e2.machs.length,.hd (4 + 3 * a2 + 2) 0 e2.finds.length]):=by rw [WI,q1];simp only [Option.map_some,QR.own,mhd,if_neg hne2]
     have gM:EO[4 + 3 * a2 + 1]? = some (.buf true 1 (e2.machs.map V.int)):=by
      rw [show 4 + 3 * a2 + 1 = 4 + (3 * a2 + 1) by omega]
      exact hrow _ _ (by rw [WH,q1];simp only [Option.map_some,mob,if_neg hne2])
     have hml:0 < e2.machs.length:=kX.2 hne2
     obtain ⟨nM,hnM⟩:∃ n,n = 4 + 3 * a2 + 1:=⟨_,rfl⟩
     rw [← hnM] at f10 gM
     have hM2:nM < 2000:=by omega
     have hM3:3≤nM:=by omega
     have u1:∀ q,(nM = q + 2000) = False:=fun q=>eq_false (by omega)
     have u3:∀ q,(q + 2000 = nM) = False:=fun q=>eq_false (by omega)
     have u5:(nM = 2) = False:=eq_false (by omega)
     have u6:(2 = nM) = False:=eq_false (by omega)
     have u7:(0 = nM) = False:=eq_false (by omega)
     have u8:(1 = nM) = False:=eq_false (by omega)
     have v1:∀ q,decide (nM < q + 2000) = true:=fun q=>zo (by omega)
     have wM:ZW (nM = 4 + 3 * a2 + 1):=⟨hnM⟩
     clear hnM
     rcases hfo:Jw e2.machs (bsI ltJ e2.machs f.mach) f.mach with _|_
     ·have f9:=iI e2.machs f.mach hml (by omega) hfo
      obtain ⟨hh,hins⟩:∃ hh,aaU ltJ e2.machs f.mach = hh:=⟨_,rfl⟩
      have hne3:¬ hh = []:=by
       have:=(vJ (lt:=ltJ) e2.machs f.mach).2
       rw [hins] at this
       exact kX.1 this
      rw [hins] at f9
      have hlm:(List.map V.int hh).length = hh.length:=zb _
      repeat' (first|(refine zsk ?_;intro K' hK)|(refine zrg ?_;intro K' hK)|refine zsp ?_|(refine zsc ?_ ?_<;>intro hc<;>first|exact znh|try simp only [znz] at hc)|simp (maxSteps:=1000000) only [go_sem,mTs,g0,g1,g2,g3,e5,hw,f10,f13,hlm,gM,v1,u1,u3,u5,u6,Int.toNat_natCast]|(refine hK _ ?_;clear hK K')|apply zan|(apply agF;(focus exact rfl);(focus first|exact f9);(focus exact rfl);(focus exact rfl);(focus (first|exact rfl|(simp;done))))|(apply acK;(focus exact rfl);(focus exact rfl);(focus first|exact f9);(focus exact rfl);(focus (first|exact rfl|(simp;done)));(focus (first|exact rfl|(simp;done))))|(apply ahP;(focus first|exact rfl|(simp only [upd,if_false, *];exact rfl));(focus first|exact rfl|decide|(simp [rA,rW];done)|(simp [rA,rW];omega)|omega);(focus first|exact rfl|decide|(simp [rA,rW];done)|(simp [rA,rW];omega)|omega);(focus first|exact f9);(focus exact rfl);(focus first|exact rfl|decide|(simp [rA,rW];done)|(simp [rA,rW];omega)|omega);(focus (first|exact rfl|(simp;done)));(focus exact rfl))|(apply Ko;(focus exact rfl);(focus first|exact (z3 _ _ zsd zsd));(focus exact rfl);(focus exact rfl))|(apply VJ;(focus exact rfl);(focus exact zrd);(focus exact zrd);(focus first|exact (z3 _ _ zsd zsd));(focus exact rfl);(focus exact rfl);(focus exact zrd))|(apply j6;(focus first|exact (z2 _ _ zsd zsd)))|(apply jc;(focus first|exact (z2 _ _ zsd zsd));(focus exact zrd))|((first|apply Qr|apply Qy);(focus first|exact (z0 _ _ zsd zsd).b))|exact zsq|fail)
      all_goals
       have wM':=wM.h
       refine hL _ (k + 1) (aau [0,1,2] (nmS 4 a2 (4 + 3 * a2) 12000 (4 + 3 * a2 + 2))) (by omega) (by omega) ?_
       rw [hm,← q2]
       refine abX (N:=4) (es0:=es2) (e1:=yK f e2) (els:=(V9 4 es2).set a2 (.agg [V.int e2.num,.hd (4 + 3 * a2) 0 e2.hosts.length,.hd 12000 0 hh.length,.hd (4 + 3 * a2 + 2) 0 e2.finds.length])) [0,1,2] rfl rfl q5 (by omega) (aaC rfl (by rw [zP];rfl) rfl rfl rfl rfl) (by simp) ?_ ?_ ?_ (fun k y h=>by simp at h) (fun j=>?_) (fun q y hq hq3 hy=>?_) ?_ ⟨.buf true 1 (hh.map V.int),by simp only [upd,u3,Nat.reduceEqDiff,if_false,if_true],fun _=>by simp only [yK,if_neg hm0,hins]⟩ ?_ (by simp) (fun q hq=>?_) ?_ ?_ ?_ ?_ ?_
       ·simp only [zM,zS,upd,Nat.reduceEqDiff,if_false,if_true,u6,u7,u8];first|done|exact g0
       ·rw [K6 (e1:=yK f e2) q1 rfl,zP];simp only [zM,zS,upd,Nat.reduceEqDiff,if_false,if_true,u6,u7,u8];first|done|exact g1
       ·simp only [zM,zS,upd,Nat.reduceEqDiff,if_false,if_true,u6,u7,u8];first|done|rfl
       ·rw [f14]
        by_cases hj:j = a2
        ·rw [if_pos hj,if_pos hj];simp only [yK,if_neg hm0,hins,mhd];first|rfl|(rw [if_neg hne2];done)|(rw [if_neg hne3];done)
        ·rw [if_neg hj,if_neg hj]
       ·simp only [upd];(repeat rw [if_neg (by omega)]);exact hrow q y hy
       ·simp only [upd];(repeat rw [if_neg (by omega)]);exact hrow _ _ (by rw [YK,q1];rfl)
       ·simp only [upd];(repeat rw [if_neg (by omega)]);exact hrow _ _ (by rw [YJ,q1];rfl)
       ·simp only [zC,zI,or_false] at hq ⊢;omega
       ·simp only [zC,zI,or_false];omega
       ·omega
       ·omega
       ·omega
       ·omega
     ·have f9:=iX e2.machs f.mach hml (by omega) hfo
      have hins:aaU ltJ e2.machs f.mach = e2.machs:=by rw [aaU,if_pos hfo]
      repeat' (first|(refine zsk ?_;intro K' hK)|(refine zrg ?_;intro K' hK)|refine zsp ?_|(refine zsc ?_ ?_<;>intro hc<;>first|exact znh|try simp only [znz] at hc)|simp (maxSteps:=1000000) only [go_sem,mTs,g0,g1,g2,g3,e5,hw,f10,f13,gM,v1,u1,u3,u5,u6,Int.toNat_natCast]|(refine hK _ ?_;clear hK K')|apply zan|(apply aaH;(focus exact rfl);(focus first|exact f9);(focus exact rfl);(focus exact rfl);(focus (first|exact rfl|(simp;done))))|(apply xu;(focus first|exact rfl|(simp only [upd,if_false, *];exact rfl));(focus first|exact rfl|decide|(simp [rA,rW];done)|(simp [rA,rW];omega)|omega);(focus first|exact rfl|decide|(simp [rA,rW];done)|(simp [rA,rW];omega)|omega);(focus first|exact f9);(focus exact rfl);(focus first|exact rfl|decide|(simp [rA,rW];done)|(simp [rA,rW];omega)|omega);(focus (first|exact rfl|(simp;done)));(focus exact rfl))|(apply Ko;(focus exact rfl);(focus first|exact (z3 _ _ zsd zsd));(focus exact rfl);(focus exact rfl))|(apply VJ;(focus exact rfl);(focus exact zrd);(focus exact zrd);(focus first|exact (z3 _ _ zsd zsd));(focus exact rfl);(focus exact rfl);(focus exact zrd))|(apply j6;(focus first|exact (z2 _ _ zsd zsd)))|(apply jc;(focus first|exact (z2 _ _ zsd zsd));(focus exact zrd))|((first|apply Qr|apply Qy);(focus first|exact (z0 _ _ zsd zsd).b))|exact zsq|fail)
      all_goals
       have wM':=wM.h
       refine hL _ (k + 1) (aau [0,1,2] (nmS 4 a2 (4 + 3 * a2) nM (4 + 3 * a2 + 2))) (by omega) (by omega) ?_
       rw [hm,← q2]
       refine abX (N:=4) (es0:=es2) (e1:=yK f e2) (els:=(V9 4 es2).set a2 (.agg [V.int e2.num,.hd (4 + 3 * a2) 0 e2.hosts.length,.hd nM 0 e2.machs.length,.hd (4 + 3 * a2 + 2) 0 e2.finds.length])) [0,1,2] rfl rfl q5 (by omega) (aaC rfl (by rw [zP];rfl) rfl rfl rfl rfl) (by simp) ?_ ?_ ?_ (fun k y h=>by simp at h) (fun j=>?_) (fun q y hq hq3 hy=>?_) ?_ ⟨.buf true 1 (e2.machs.map V.int),by simp only [upd,u5,if_false,if_true,gM],fun _=>by simp only [yK,if_neg hm0,hins]⟩ ?_ (by simp) (fun q hq=>?_) ?_ ?_ ?_ ?_ ?_
       ·simp only [zM,zS,upd,Nat.reduceEqDiff,if_false,if_true,u6,u7,u8];first|done|exact g0
       ·rw [K6 (e1:=yK f e2) q1 rfl,zP];simp only [zM,zS,upd,Nat.reduceEqDiff,if_false,if_true,u6,u7,u8];first|done|exact g1
       ·simp only [zM,zS,upd,Nat.reduceEqDiff,if_false,if_true,u6,u7,u8];first|done|rfl
       ·rw [f14]
        by_cases hj:j = a2
        ·rw [if_pos hj,if_pos hj];simp only [yK,if_neg hm0,hins,mhd];first|rfl|(rw [if_neg hne2];done)|(rw [if_neg hne3];done)
        ·rw [if_neg hj,if_neg hj]
       ·simp only [upd];(repeat rw [if_neg (by omega)]);exact hrow q y hy
       ·simp only [upd];(repeat rw [if_neg (by omega)]);exact hrow _ _ (by rw [YK,q1];rfl)
       ·simp only [upd];(repeat rw [if_neg (by omega)]);exact hrow _ _ (by rw [YJ,q1];rfl)
       ·simp only [zC,zI,or_false] at hq ⊢;omega
       ·simp only [zC,zI,or_false];omega
       ·omega
       ·omega
       ·omega
       ·omega
 ·obtain ⟨a,e,hia,hea,hen⟩:=hI.find hp hk0
  have hal:=(zn.1 hea).1
  have hsz:=hI.sz e (zq hea)
  have hel:=hI.len
  have hrk:=KL hp k
  have e2:(((Qn p k:Nat):Int) == (k:Int)) = false:=by simp;omega
  have g0:(eO p (es.map QR.num) (List.range es.length) [] es)[0]? = some (.box true (Qv p)):=rfl
  have g1:(eO p (es.map QR.num) (List.range es.length) [] es)[1]? = some (.map (Qv (es.map QR.num)) (Qv (List.range es.length)) 0):=rfl
  have g2:(eO p (es.map QR.num) (List.range es.length) [] es)[2]? = some (.obuf true 4 (V9 3 es)):=rfl
  have f1:=yz (Qn p k) (es.map QR.num) 0
  rw [hia] at f1
  have f3:=acw ((Qn p k:Nat):Int)
  have f6:(Qv (List.range es.length))[a]? = some (V.int (a:Nat)):=J6 (by simp [hal])
  have f8:=Wi es 3
  have hes:Yl l p (k + 1) = es.set a (YW k f e):=by rw [hsu,aeR,if_neg hk0,hia];simp only [hea]
  clear hsu
  generalize Qn p k = rt at *
  repeat' (first|(refine zsk ?_;intro K' hK)|refine zsp ?_|(refine zsc ?_ ?_<;>intro hc<;>first|exact znh|try simp only [znz] at hc)|simp (maxSteps:=1000000) only [go_sem,eSt,eTs,e1,e2,g0,g1,g2,f1,f3,f6,f8,Int.toNat_natCast,zi,hget,Qa.v,Qa.cells]|(refine hK _ ?_;clear hK K')|apply zan|(apply Ko;(focus exact rfl);(focus first|exact n1|exact (z3 _ _ zsd zsd));(focus exact rfl);(focus exact rfl))|(apply j6;(focus first|exact (z2 _ _ zsd zsd)))|(apply Qr;(focus first|exact (z0 _ _ zsd zsd).b))|exact zsq|fail)
  refine aiR (ι:=List QR×Nat×QR) (arn l p k f) (fun q=>mSt l p q.1 f q.2.1 k) (fun s=>s.keep [7,8,9,11,13,24,25,26]) (fun K2 hK2=>?_) (fun q hq s' τ hwk=>?_)
  ·have f10:(V9 3 es)[a]? = some (.agg [V.int e.num,.hd (3 + 3 * a) 0 e.hosts.length,mhd (3 + 3 * a + 1) e.machs,.hd (3 + 3 * a + 2) 0 e.finds.length]):=by rw [WI,hea];rfl
   have gH:(eO p (es.map QR.num) (List.range es.length) [] es)[3 + 3 * a]? = some (.buf true 1 (e.hosts.map V.str)):=by
    rw [show 3 + 3 * a = 3 + ([]:List Ob).length + 3 * a from rfl,jY,YK,hea];rfl
   have gF:(eO p (es.map QR.num) (List.range es.length) [] es)[3 + 3 * a + 2]? = some (.buf true 1 (Qv e.finds)):=by
    rw [show 3 + 3 * a + 2 = 3 + ([]:List Ob).length + (3 * a + 2) by simp;omega,jY,YJ,hea];rfl
   obtain ⟨nH,hnH⟩:∃ n,n = 3 + 3 * a:=⟨_,rfl⟩
   obtain ⟨nF,hnF⟩:∃ n,n = 3 + 3 * a + 2:=⟨_,rfl⟩
   rw [← hnF] at f10 gF
   rw [← hnH] at f10 gH
   have hF2:nF < 2000:=by omega
   have hH2:nH < 2000:=by omega
   have v1:∀ q,decide (nH < q + 2000) = true:=fun q=>zo (by omega)
   have v2:∀ q,decide (nF < q + 2000) = true:=fun q=>zo (by omega)
   have u1:∀ q,(nH = q + 2000) = False:=fun q=>eq_false (by omega)
   have u2:∀ q,(nF = q + 2000) = False:=fun q=>eq_false (by omega)
   have u3:∀ q,(q + 2000 = nH) = False:=fun q=>eq_false (by omega)
   have u4:∀ q,(q + 2000 = nF) = False:=fun q=>eq_false (by omega)
   have u5:(nH = nF) = False:=eq_false (by omega)
   have u6:(nF = nH) = False:=eq_false (by omega)
   have u7:(nH = 0) = False:=eq_false (by omega)
   have u8:(nF = 0) = False:=eq_false (by omega)
   have u11:(nH = 2) = False:=eq_false (by omega)
   have u12:(nF = 2) = False:=eq_false (by omega)
   have u9:(2 = nH) = False:=eq_false (by omega)
   have u10:(2 = nF) = False:=eq_false (by omega)
   have hH3:3≤nH:=by omega
   have hF3:3≤nF:=by omega
   have wH:ZW (nH = 3 + 3 * a):=⟨hnH⟩
   have wF:ZW (nF = 3 + 3 * a + 2):=⟨hnF⟩
   clear hnH hnF
   have f11:List.take e.finds.length (Qv e.finds)++[V.int k] = Qv (e.finds++[k]):=by rw [zl (by rw [Jr];exact zh _),Kb]
   have f12:=Jr e.finds
   have z1:e.finds.length≤400:=by have:=hsz.f1;omega
   have w0:(0 = nH) = False:=eq_false (by omega)
   have w1:(0 = nF) = False:=eq_false (by omega)
   have w2:(1 = nH) = False:=eq_false (by omega)
   have w3:(1 = nF) = False:=eq_false (by omega)
   have f13:∀ v:V,((V9 3 es).set a v)[a]? = some v:=fun v=>by rw [ke,if_pos rfl,if_pos (by rw [f8];exact hal)]
   have f14:∀ j (v:V),((V9 3 es).set a v)[j]? = if j = a then some v else (V9 3 es)[j]?:=fun j v=>by
    rw [ke]
    by_cases hj:a = j
    ·subst hj;rw [if_pos rfl,if_pos (by rw [f8];exact hal),if_pos rfl]
    ·rw [if_neg hj,if_neg (fun e=>hj e.symm)]
   have f15:∀ v w:V,((V9 3 es).set a v).set a w = (V9 3 es).set a w:=fun v w=>List.set_set ..
   rcases hfo:Jw e.hosts (bsI Op.bytesLess e.hosts f.host) f.host with _|_
   ·have f9:=sI e.hosts f.host hsz.h0 (by have:=hsz.h1;omega) hfo
    clear sX sI sW iX iI iW hL
    obtain ⟨hh,hins⟩:∃ hh,aaU Op.bytesLess e.hosts f.host = hh:=⟨_,rfl⟩
    rw [hins] at f9
    have hlm:(List.map V.str hh).length = hh.length:=zb _
    repeat' (first|(refine zsk ?_;intro K' hK)|(refine zrg ?_;intro K' hK)|refine zsp ?_|(refine zsc ?_ ?_<;>intro hc<;>first|exact znh|try simp only [znz] at hc)|simp (maxSteps:=1000000) only [go_sem,f8,f10,f11,f12,f13,f15,hlm,gH,gF,g2,v1,v2,u1,u2,u3,u4,u5,u6,u7,u8,u9,u10,Int.toNat_natCast]|(refine hK _ ?_;clear hK K')|apply zan|(apply agF;(focus exact rfl);(focus first|exact f9);(focus exact rfl);(focus exact rfl);(focus (first|exact rfl|(simp;done))))|(apply acK;(focus exact rfl);(focus exact rfl);(focus first|exact f9);(focus exact rfl);(focus (first|exact rfl|(simp;done)));(focus (first|exact rfl|(simp;done))))|(apply ahP;(focus first|exact rfl|(simp only [upd,if_false, *];exact rfl));(focus first|exact rfl|decide|(simp [rA,rW];done)|(simp [rA,rW];omega)|omega);(focus first|exact rfl|decide|(simp [rA,rW];done)|(simp [rA,rW];omega)|omega);(focus first|exact f9);(focus exact rfl);(focus first|exact rfl|decide|(simp [rA,rW];done)|(simp [rA,rW];omega)|omega);(focus (first|exact rfl|(simp;done)));(focus exact rfl))|(apply Ko;(focus exact rfl);(focus first|exact (z3 _ _ zsd zsd));(focus exact rfl);(focus exact rfl))|(apply VJ;(focus exact rfl);(focus exact zrd);(focus exact zrd);(focus first|exact (z3 _ _ zsd zsd));(focus exact rfl);(focus exact rfl);(focus exact zrd))|(apply j6;(focus first|exact (z2 _ _ zsd zsd)))|(apply jc;(focus first|exact (z2 _ _ zsd zsd));(focus exact zrd))|((first|apply Qr|apply Qy);(focus first|exact (z0 _ _ zsd zsd).b))|exact zsq|fail)
    all_goals
     have wH':=wH.h
     have wF':=wF.h
     refine hK2 _ (es.set a (QU k f e),a,QU k f e) (aau [0,1,2,6000] (nmS 3 a 30000 (3 + 3 * a + 1) 37000)) ⟨?_,?_,?_,?_⟩ ?_
     ·simp only;rw [ke,if_pos rfl,if_pos hal]
     ·simp only;rw [hes,List.set_set];rfl
     ·simp only [zP];omega
     ·simp only [QU];have:=hsz.m1;omega
     rw [hm]
     refine abX (es0:=es) (e1:=QU k f e) (els:=(V9 3 es).set a (.agg [V.int e.num,.hd 30000 0 hh.length,mhd (nH + 1) e.machs,.hd 37000 0 (e.finds.length + 1)])) [0,1,2,6000] rfl rfl hal (by omega) (akZ rfl (by rw [zP];rfl) rfl rfl rfl rfl rfl rfl) (by simp) ?_ ?_ ?_ (aoT (x3:=6000) rfl ?_) (fun j=>?_) (fun q y hq hq3 hy=>?_) ?_ ⟨mob e.machs,?_,fun hne=>by rw [mob,if_neg (show ¬ e.machs = [] from hne)];rfl⟩ ?_ (by simp) (fun q hq=>?_) ?_ ?_ ?_ ?_ ?_
     ·simp only [zM,St.keep,upd,u7,u8,w0,w1,if_false,if_true,Nat.reduceEqDiff]
     ·rw [K6 (e1:=QU k f e) hea rfl,zP]
      simp only [zS,zM,St.keep,upd,w2,w3,if_false,if_true,Nat.reduceEqDiff,g1]
     ·simp only [zS,zM,St.keep,upd,u9,u10,if_false,if_true,Nat.reduceEqDiff]
     ·simp only [St.keep,upd,u3,u4,if_false,if_true,Nat.reduceEqDiff];rfl
     ·rw [f14]
      by_cases hj:j = a
      ·rw [if_pos hj,if_pos hj,wH']
       simp only [QU,hins,zv,List.length_singleton]
      ·rw [if_neg hj,if_neg hj]
     ·simp only [St.keep,upd]
      repeat rw [if_neg (by omega)]
      rw [show 3 + q = 3 + ([]:List Ob).length + q from rfl,jY]
      exact hy
     ·simp only [QU,hins,St.keep,upd,u1,u3,u4,u5,u6,u11,u12,if_false,if_true,Nat.reduceEqDiff]
     ·simp only [St.keep,upd]
      repeat rw [if_neg (by omega)]
      rw [show 3 + 3 * a + 1 = 3 + ([]:List Ob).length + (3 * a + 1) by simp;omega,jY,WH,hea];rfl
     ·simp only [QU,St.keep,upd,u3,u4,if_false,if_true,Nat.reduceEqDiff]
     ·simp only [zC,zI,or_false] at hq ⊢;omega
     ·simp only [zC,zI,or_false];omega
     ·omega
     ·omega
     ·omega
     ·omega
   ·have f9:=sX e.hosts f.host hsz.h0 (by have:=hsz.h1;omega) hfo
    clear sX sI sW iX iI iW hL
    have hins:aaU Op.bytesLess e.hosts f.host = e.hosts:=by rw [aaU,if_pos hfo]
    repeat' (first|(refine zsk ?_;intro K' hK)|(refine zrg ?_;intro K' hK)|refine zsp ?_|(refine zsc ?_ ?_<;>intro hc<;>first|exact znh|try simp only [znz] at hc)|simp (maxSteps:=1000000) only [go_sem,f8,f10,f11,f12,f13,f15,gH,gF,g2,v1,v2,u1,u2,u3,u4,u5,u6,u7,u8,u9,u10,Int.toNat_natCast]|(refine hK _ ?_;clear hK K')|apply zan|(apply aaH;(focus exact rfl);(focus first|exact f9);(focus exact rfl);(focus exact rfl);(focus (first|exact rfl|(simp;done))))|(apply xu;(focus first|exact rfl|(simp only [upd,if_false, *];exact rfl));(focus first|exact rfl|decide|(simp [rA,rW];done)|(simp [rA,rW];omega)|omega);(focus first|exact rfl|decide|(simp [rA,rW];done)|(simp [rA,rW];omega)|omega);(focus first|exact f9);(focus exact rfl);(focus first|exact rfl|decide|(simp [rA,rW];done)|(simp [rA,rW];omega)|omega);(focus (first|exact rfl|(simp;done)));(focus exact rfl))|(apply Ko;(focus exact rfl);(focus first|exact (z3 _ _ zsd zsd));(focus exact rfl);(focus exact rfl))|(apply VJ;(focus exact rfl);(focus exact zrd);(focus exact zrd);(focus first|exact (z3 _ _ zsd zsd));(focus exact rfl);(focus exact rfl);(focus exact zrd))|(apply j6;(focus first|exact (z2 _ _ zsd zsd)))|(apply jc;(focus first|exact (z2 _ _ zsd zsd));(focus exact zrd))|((first|apply Qr|apply Qy);(focus first|exact (z0 _ _ zsd zsd).b))|exact zsq|fail)
    all_goals
     have wH':=wH.h
     have wF':=wF.h
     refine hK2 _ (es.set a (QU k f e),a,QU k f e) (aau [0,1,2,6000] (nmS 3 a nH (3 + 3 * a + 1) 37000)) ⟨?_,?_,?_,?_⟩ ?_
     ·simp only;rw [ke,if_pos rfl,if_pos hal]
     ·simp only;rw [hes,List.set_set];rfl
     ·simp only [zP];omega
     ·simp only [QU];have:=hsz.m1;omega
     rw [hm]
     refine abX (es0:=es) (e1:=QU k f e) (els:=(V9 3 es).set a (.agg [V.int e.num,.hd nH 0 e.hosts.length,mhd (nH + 1) e.machs,.hd 37000 0 (e.finds.length + 1)])) [0,1,2,6000] rfl rfl hal (by omega) (akZ rfl (by rw [zP];rfl) rfl rfl rfl rfl rfl rfl) (by simp) ?_ ?_ ?_ (aoT (x3:=6000) rfl ?_) (fun j=>?_) (fun q y hq hq3 hy=>?_) ?_ ⟨mob e.machs,?_,fun hne=>by rw [mob,if_neg (show ¬ e.machs = [] from hne)];rfl⟩ ?_ (by simp) (fun q hq=>?_) ?_ ?_ ?_ ?_ ?_
     ·simp only [zM,St.keep,upd,u7,u8,w0,w1,if_false,if_true,Nat.reduceEqDiff]
     ·rw [K6 (e1:=QU k f e) hea rfl,zP]
      simp only [zS,zM,St.keep,upd,w2,w3,if_false,if_true,Nat.reduceEqDiff,g1]
     ·simp only [zS,zM,St.keep,upd,u9,u10,if_false,if_true,Nat.reduceEqDiff]
     ·simp only [St.keep,upd,u3,u4,if_false,if_true,Nat.reduceEqDiff];rfl
     ·rw [f14]
      by_cases hj:j = a
      ·rw [if_pos hj,if_pos hj,wH']
       simp only [QU,hins,zv,List.length_singleton]
      ·rw [if_neg hj,if_neg hj]
     ·simp only [St.keep,upd]
      repeat rw [if_neg (by omega)]
      rw [show 3 + q = 3 + ([]:List Ob).length + q from rfl,jY]
      exact hy
     ·simp only [QU,hins,St.keep,upd,u1,u3,u4,u5,u6,u11,u12,if_false,if_true,Nat.reduceEqDiff]
     ·simp only [St.keep,upd]
      repeat rw [if_neg (by omega)]
      rw [show 3 + 3 * a + 1 = 3 + ([]:List Ob).length + (3 * a + 1) by simp;omega,jY,WH,hea];rfl
     ·simp only [QU,St.keep,upd,u3,u4,if_false,if_true,Nat.reduceEqDiff]
     ·simp only [zC,zI,or_false] at hq ⊢;omega
     ·simp only [zC,zI,or_false];omega
     ·omega
     ·omega
     ·omega
     ·omega
  ·obtain ⟨es2,a2,e2⟩:=q
   obtain ⟨q1,q2,q3,q4⟩:=hq
   simp only at q1 q2 q3 q4 hwk ⊢
   refine abt hwk ?_
   clear hwk
   have q5:=(zn.1 q1).1
   have g0:(eO p (es2.map QR.num) (List.range es2.length) [.box true f.cells] es2)[0]? = some (.box true (Qv p)):=rfl
   have g1:(eO p (es2.map QR.num) (List.range es2.length) [.box true f.cells] es2)[1]? = some (.map (Qv (es2.map QR.num)) (Qv (List.range es2.length)) 0):=rfl
   have g2:(eO p (es2.map QR.num) (List.range es2.length) [.box true f.cells] es2)[2]? = some (.obuf true 4 (V9 4 es2)):=rfl
   have g3:(eO p (es2.map QR.num) (List.range es2.length) [.box true f.cells] es2)[3]? = some (.box true f.cells):=rfl
   simp only [mSt]
   generalize hEO:eO p (es2.map QR.num) (List.range es2.length) [.box true f.cells] es2 = EO at g0 g1 g2 g3 ⊢
   simp only [Qa.cells] at g3
   have hrow:∀ q y,(aat es2)[q]? = some y→EO[4 + q]? = some y:=fun q y h=>by
    rw [← hEO,show 4 + q = 3 + [Ob.box true f.cells].length + q from rfl,jY];exact h
   have wEO:ZW (eO p (es2.map QR.num) (List.range es2.length) [.box true f.cells] es2 = EO):=⟨hEO⟩
   clear hEO
   by_cases hm0:f.mach = 0
   ·have e5:(f.mach != 0) = false:=by simpa using hm0
    (have zx:=za g0 (za g1 (za g2 (za g3 (za e5 hw)))));refine zgo ?_;repeat' first|exact zt|apply zan|intro hc
    all_goals
     refine hL _ (k + 1) (aau [0,1,2] (nmS 4 a2 (4 + 3 * a2) (4 + 3 * a2 + 1) (4 + 3 * a2 + 2))) (by omega) (by omega) ?_
     rw [hm,← q2]
     refine abX (N:=4) (es0:=es2) (e1:=yK f e2) (els:=V9 4 es2) [0,1,2] rfl rfl q5 (by omega) (aaC rfl (by rw [zP];rfl) rfl rfl rfl rfl) (by simp) ?_ ?_ ?_ (fun k y h=>by simp at h) (fun j=>?_) (fun q y hq hq3 hy=>?_) ?_ ⟨mob e2.machs,hrow _ _ (by rw [WH,q1];rfl),fun hne=>by rw [yK,if_pos hm0] at hne ⊢;rw [mob,if_neg hne]⟩ ?_ (by simp) (fun q hq=>?_) ?_ ?_ ?_ ?_ ?_
     ·exact g0
     ·rw [K6 (e1:=yK f e2) q1 rfl,zP];exact g1
     ·first|exact g2|rfl
     ·rw [WI]
      by_cases hj:j = a2
      ·rw [if_pos hj,hj,q1];simp only [Option.map_some,QR.own,yK,if_pos hm0]
      ·rw [if_neg hj]
     ·exact hrow q y hy
     ·exact hrow _ _ (by rw [YK,q1];rfl)
     ·exact hrow _ _ (by rw [YJ,q1];rfl)
     ·simp only [zC,zI,or_false] at hq ⊢;omega
     ·simp only [zC,zI,or_false];omega
     ·omega
     ·omega
     ·omega
     ·omega
   ·have e5:(f.mach != 0) = true:=by simpa using hm0
    have f8:=Wi es2 4
    have f13:∀ v:V,((V9 4 es2).set a2 v)[a2]? = some v:=fun v=>by rw [ke,if_pos rfl,if_pos (by rw [f8];exact q5)]
    have f14:∀ j (v:V),((V9 4 es2).set a2 v)[j]? = if j = a2 then some v else (V9 4 es2)[j]?:=fun j v=>by
     rw [ke]
     by_cases hj:a2 = j
     ·subst hj;rw [if_pos rfl,if_pos (by rw [f8];exact q5),if_pos rfl]
     ·rw [if_neg hj,if_neg (fun e=>hj e.symm)]
    by_cases hne2:e2.machs = []
    ·have f10:(V9 4 es2)[a2]? = some (.agg [V.int e2.num,.hd (4 + 3 * a2) 0 e2.hosts.length,wW,.hd (4 + 3 * a2 + 2) 0 e2.finds.length]):=by rw [WI,q1];simp only [Option.map_some,QR.own,mhd,if_pos hne2]
     have f9:=iW f.mach
     have hins:aaU ltJ e2.machs f.mach = [f.mach]:=by rw [hne2,abq]
     have hne3:¬ ([f.mach]:List Int) = []:=by simp
     (have zx:=za g0 (za g1 (za g2 (za g3 (za e5 (za hw (za f10 f13)))))));refine zgo ?_;repeat' first|exact zt|apply zan|intro hc
     all_goals
      refine hL _ (k + 1) (aau [0,1,2] (nmS 4 a2 (4 + 3 * a2) 12000 (4 + 3 * a2 + 2))) (by omega) (by omega) ?_
      rw [hm,← q2]
      refine abX (N:=4) (es0:=es2) (e1:=yK f e2) (els:=(V9 4 es2).set a2 (.agg [V.int e2.num,.hd (4 + 3 * a2) 0 e2.hosts.length,.hd 12000 0 1,.hd (4 + 3 * a2 + 2) 0 e2.finds.length])) [0,1,2] rfl rfl q5 (by omega) (aaC rfl (by rw [zP];rfl) rfl rfl rfl rfl) (by simp) ?_ ?_ ?_ (fun k y h=>by simp at h) (fun j=>?_) (fun q y hq hq3 hy=>?_) ?_ ⟨_,rfl,fun _=>by simp only [yK,if_neg hm0,hins];rfl⟩ ?_ (by simp) (fun q hq=>?_) ?_ ?_ ?_ ?_ ?_
      ·simp only [zM,zS,upd,Nat.reduceEqDiff,if_false,if_true];first|done|exact g0
      ·rw [K6 (e1:=yK f e2) q1 rfl,zP];simp only [zM,zS,upd,Nat.reduceEqDiff,if_false,if_true];first|done|exact g1
      ·simp only [zM,zS,upd,Nat.reduceEqDiff,if_false,if_true];first|done|rfl
      ·rw [f14]
       by_cases hj:j = a2
       ·rw [if_pos hj,if_pos hj];simp only [yK,if_neg hm0,hins,mhd];first|rfl|(rw [if_neg hne2];done)|(rw [if_neg hne3];done)
       ·rw [if_neg hj,if_neg hj]
      ·simp only [upd];(repeat rw [if_neg (by omega)]);exact hrow q y hy
      ·simp only [upd];(repeat rw [if_neg (by omega)]);exact hrow _ _ (by rw [YK,q1];rfl)
      ·simp only [upd];(repeat rw [if_neg (by omega)]);exact hrow _ _ (by rw [YJ,q1];rfl)
      ·simp only [zC,zI,or_false] at hq ⊢;omega
      ·simp only [zC,zI,or_false];omega
      ·omega
      ·omega
      ·omega
      ·omega
    ·have f10:(V9 4 es2)[a2]? = some (.agg [V.int e2.num,.hd (4 + 3 * a2) 0 e2.hosts.length,.hd (4 + 3 * a2 + 1) 0 e2.machs.length,.hd (4 + 3 * a2 + 2) 0 e2.finds.length]):=by rw [WI,q1];simp only [Option.map_some,QR.own,mhd,if_neg hne2]
     have gM:EO[4 + 3 * a2 + 1]? = some (.buf true 1 (e2.machs.map V.int)):=by
      rw [show 4 + 3 * a2 + 1 = 4 + (3 * a2 + 1) by omega]
      exact hrow _ _ (by rw [WH,q1];simp only [Option.map_some,mob,if_neg hne2])
     have hml:0 < e2.machs.length:=kX.2 hne2
     obtain ⟨nM,hnM⟩:∃ n,n = 4 + 3 * a2 + 1:=⟨_,rfl⟩
     rw [← hnM] at f10 gM
     have hM2:nM < 2000:=by omega
     have hM3:3≤nM:=by omega
     have u1:∀ q,(nM = q + 2000) = False:=fun q=>eq_false (by omega)
     have u3:∀ q,(q + 2000 = nM) = False:=fun q=>eq_false (by omega)
     have u5:(nM = 2) = False:=eq_false (by omega)
     have u6:(2 = nM) = False:=eq_false (by omega)
     have u7:(0 = nM) = False:=eq_false (by omega)
     have u8:(1 = nM) = False:=eq_false (by omega)
     have v1:∀ q,decide (nM < q + 2000) = true:=fun q=>zo (by omega)
     have wM:ZW (nM = 4 + 3 * a2 + 1):=⟨hnM⟩
     clear hnM
     rcases hfo:Jw e2.machs (bsI ltJ e2.machs f.mach) f.mach with _|_
     ·have f9:=iI e2.machs f.mach hml (by omega) hfo
      obtain ⟨hh,hins⟩:∃ hh,aaU ltJ e2.machs f.mach = hh:=⟨_,rfl⟩
      have hne3:¬ hh = []:=by
       have:=(vJ (lt:=ltJ) e2.machs f.mach).2
       rw [hins] at this
       exact kX.1 this
      rw [hins] at f9
      have hlm:(List.map V.int hh).length = hh.length:=zb _
      repeat' (first|(refine zsk ?_;intro K' hK)|(refine zrg ?_;intro K' hK)|refine zsp ?_|(refine zsc ?_ ?_<;>intro hc<;>first|exact znh|try simp only [znz] at hc)|simp (maxSteps:=1000000) only [go_sem,mTs,g0,g1,g2,g3,e5,hw,f10,f13,hlm,gM,v1,u1,u3,u5,u6,Int.toNat_natCast]|(refine hK _ ?_;clear hK K')|apply zan|(apply agF;(focus exact rfl);(focus first|exact f9);(focus exact rfl);(focus exact rfl);(focus (first|exact rfl|(simp;done))))|(apply acK;(focus exact rfl);(focus exact rfl);(focus first|exact f9);(focus exact rfl);(focus (first|exact rfl|(simp;done)));(focus (first|exact rfl|(simp;done))))|(apply ahP;(focus first|exact rfl|(simp only [upd,if_false, *];exact rfl));(focus first|exact rfl|decide|(simp [rA,rW];done)|(simp [rA,rW];omega)|omega);(focus first|exact rfl|decide|(simp [rA,rW];done)|(simp [rA,rW];omega)|omega);(focus first|exact f9);(focus exact rfl);(focus first|exact rfl|decide|(simp [rA,rW];done)|(simp [rA,rW];omega)|omega);(focus (first|exact rfl|(simp;done)));(focus exact rfl))|(apply Ko;(focus exact rfl);(focus first|exact (z3 _ _ zsd zsd));(focus exact rfl);(focus exact rfl))|(apply VJ;(focus exact rfl);(focus exact zrd);(focus exact zrd);(focus first|exact (z3 _ _ zsd zsd));(focus exact rfl);(focus exact rfl);(focus exact zrd))|(apply j6;(focus first|exact (z2 _ _ zsd zsd)))|(apply jc;(focus first|exact (z2 _ _ zsd zsd));(focus exact zrd))|((first|apply Qr|apply Qy);(focus first|exact (z0 _ _ zsd zsd).b))|exact zsq|fail)
      all_goals
       have wM':=wM.h
       refine hL _ (k + 1) (aau [0,1,2] (nmS 4 a2 (4 + 3 * a2) 12000 (4 + 3 * a2 + 2))) (by omega) (by omega) ?_
       rw [hm,← q2]
       refine abX (N:=4) (es0:=es2) (e1:=yK f e2) (els:=(V9 4 es2).set a2 (.agg [V.int e2.num,.hd (4 + 3 * a2) 0 e2.hosts.length,.hd 12000 0 hh.length,.hd (4 + 3 * a2 + 2) 0 e2.finds.length])) [0,1,2] rfl rfl q5 (by omega) (aaC rfl (by rw [zP];rfl) rfl rfl rfl rfl) (by simp) ?_ ?_ ?_ (fun k y h=>by simp at h) (fun j=>?_) (fun q y hq hq3 hy=>?_) ?_ ⟨.buf true 1 (hh.map V.int),by simp only [upd,u3,Nat.reduceEqDiff,if_false,if_true],fun _=>by simp only [yK,if_neg hm0,hins]⟩ ?_ (by simp) (fun q hq=>?_) ?_ ?_ ?_ ?_ ?_
       ·simp only [zM,zS,upd,Nat.reduceEqDiff,if_false,if_true,u6,u7,u8];first|done|exact g0
       ·rw [K6 (e1:=yK f e2) q1 rfl,zP];simp only [zM,zS,upd,Nat.reduceEqDiff,if_false,if_true,u6,u7,u8];first|done|exact g1
       ·simp only [zM,zS,upd,Nat.reduceEqDiff,if_false,if_true,u6,u7,u8];first|done|rfl
       ·rw [f14]
        by_cases hj:j = a2
        ·rw [if_pos hj,if_pos hj];simp only [yK,if_neg hm0,hins,mhd];first|rfl|(rw [if_neg hne2];done)|(rw [if_neg hne3];done)
        ·rw [if_neg hj,if_neg hj]
       ·simp only [upd];(repeat rw [if_neg (by omega)]);exact hrow q y hy
       ·simp only [upd];(repeat rw [if_neg (by omega)]);exact hrow _ _ (by rw [YK,q1];rfl)
       ·simp only [upd];(repeat rw [if_neg (by omega)]);exact hrow _ _ (by rw [YJ,q1];rfl)
       ·simp only [zC,zI,or_false] at hq ⊢;omega
       ·simp only [zC,zI,or_false];omega
       ·omega
       ·omega
       ·omega
       ·omega
     ·have f9:=iX e2.machs f.mach hml (by omega) hfo
      have hins:aaU ltJ e2.machs f.mach = e2.machs:=by rw [aaU,if_pos hfo]
      repeat' (first|(refine zsk ?_;intro K' hK)|(refine zrg ?_;intro K' hK)|refine zsp ?_|(refine zsc ?_ ?_<;>intro hc<;>first|exact znh|try simp only [znz] at hc)|simp (maxSteps:=1000000) only [go_sem,mTs,g0,g1,g2,g3,e5,hw,f10,f13,gM,v1,u1,u3,u5,u6,Int.toNat_natCast]|(refine hK _ ?_;clear hK K')|apply zan|(apply aaH;(focus exact rfl);(focus first|exact f9);(focus exact rfl);(focus exact rfl);(focus (first|exact rfl|(simp;done))))|(apply xu;(focus first|exact rfl|(simp only [upd,if_false, *];exact rfl));(focus first|exact rfl|decide|(simp [rA,rW];done)|(simp [rA,rW];omega)|omega);(focus first|exact rfl|decide|(simp [rA,rW];done)|(simp [rA,rW];omega)|omega);(focus first|exact f9);(focus exact rfl);(focus first|exact rfl|decide|(simp [rA,rW];done)|(simp [rA,rW];omega)|omega);(focus (first|exact rfl|(simp;done)));(focus exact rfl))|(apply Ko;(focus exact rfl);(focus first|exact (z3 _ _ zsd zsd));(focus exact rfl);(focus exact rfl))|(apply VJ;(focus exact rfl);(focus exact zrd);(focus exact zrd);(focus first|exact (z3 _ _ zsd zsd));(focus exact rfl);(focus exact rfl);(focus exact zrd))|(apply j6;(focus first|exact (z2 _ _ zsd zsd)))|(apply jc;(focus first|exact (z2 _ _ zsd zsd));(focus exact zrd))|((first|apply Qr|apply Qy);(focus first|exact (z0 _ _ zsd zsd).b))|exact zsq|fail)
      all_goals
       have wM':=wM.h
       refine hL _ (k + 1) (aau [0,1,2] (nmS 4 a2 (4 + 3 * a2) nM (4 + 3 * a2 + 2))) (by omega) (by omega) ?_
       rw [hm,← q2]
       refine abX (N:=4) (es0:=es2) (e1:=yK f e2) (els:=(V9 4 es2).set a2 (.agg [V.int e2.num,.hd (4 + 3 * a2) 0 e2.hosts.length,.hd nM 0 e2.machs.length,.hd (4 + 3 * a2 + 2) 0 e2.finds.length])) [0,1,2] rfl rfl q5 (by omega) (aaC rfl (by rw [zP];rfl) rfl rfl rfl rfl) (by simp) ?_ ?_ ?_ (fun k y h=>by simp at h) (fun j=>?_) (fun q y hq hq3 hy=>?_) ?_ ⟨.buf true 1 (e2.machs.map V.int),by simp only [upd,u5,if_false,if_true,gM],fun _=>by simp only [yK,if_neg hm0,hins]⟩ ?_ (by simp) (fun q hq=>?_) ?_ ?_ ?_ ?_ ?_
       ·simp only [zM,zS,upd,Nat.reduceEqDiff,if_false,if_true,u6,u7,u8];first|done|exact g0
       ·rw [K6 (e1:=yK f e2) q1 rfl,zP];simp only [zM,zS,upd,Nat.reduceEqDiff,if_false,if_true,u6,u7,u8];first|done|exact g1
       ·simp only [zM,zS,upd,Nat.reduceEqDiff,if_false,if_true,u6,u7,u8];first|done|rfl
       ·rw [f14]
        by_cases hj:j = a2
        ·rw [if_pos hj,if_pos hj];simp only [yK,if_neg hm0,hins,mhd];first|rfl|(rw [if_neg hne2];done)|(rw [if_neg hne3];done)
        ·rw [if_neg hj,if_neg hj]
       ·simp only [upd];(repeat rw [if_neg (by omega)]);exact hrow q y hy
       ·simp only [upd];(repeat rw [if_neg (by omega)]);exact hrow _ _ (by rw [YK,q1];rfl)
       ·simp only [upd];(repeat rw [if_neg (by omega)]);exact hrow _ _ (by rw [YJ,q1];rfl)
       ·simp only [zC,zI,or_false] at hq ⊢;omega
       ·simp only [zC,zI,or_false];omega
       ·omega
       ·omega
       ·omega
       ·omega
structure Qe where
 ent:Int
 subj:List UInt8
 kind:Int
 alg:Int
 bits:Int
 num:Int
 text:List UInt8
 find:Int
 deriving DecidableEq
def Qe.cells (f:Qe):List V:=[V.int f.ent,V.str f.subj,V.int f.kind,V.int f.alg,V.int f.bits,V.int f.num,V.str f.text,V.int f.find]
def Qe.v (f:Qe):V:=.agg f.cells
structure PPl where
 subj:List UInt8
 text:List UInt8
 kind:Int
 num:Int
 alg:Int
 bits:Int
 deriving DecidableEq
def PPl.cells (p:PPl):List V:=[V.str p.subj,V.str p.text,V.int p.kind,V.int p.num,V.int p.alg,V.int p.bits]
def PPl.v (p:PPl):V:=.agg p.cells
def JB (f:Qa):PPl :=
 if f.kind = 1∨f.kind = 8 then ⟨f.subj,[],1,0,f.alg,f.bits⟩
 else if f.kind = 2∨f.kind = 6 then ⟨f.subj,[],f.kind,f.num,0,0⟩
 else if f.kind = 7 then ⟨f.subj,f.text,f.kind,0,0,0⟩
 else ⟨f.subj,[],f.kind,0,0,0⟩
def ac6 (a b:Qe):Int:=Q0 [qP a.subj b.subj,YA a.kind b.kind,YA a.alg b.alg,YA a.bits b.bits,YA a.num b.num,qP a.text b.text]
def yD:=qd Proofs.Tryz.f90 [⟨fun _=>false,[1],.one 0 (.one 2 (.or 1 (.one 3 (.one 4 (.one 5 (.done)))) (.or 3 (.one 1 (.one 4 (.one 5 (.done)))) (.done))))⟩]
def xA (Γ:Env) (f:Nat):Prop:=∀ (f0:Qa),EvN Γ f [f0.v] ((JB f0).v)
theorem ahB {Γ:Env} {f:Nat} (h:Has Γ.P f 30 yD.1.1.ac yD.1.2) :xA Γ f:=by
 intro f0
 refine Qb h zsi (by unfold JB;(repeat' split)<;>simp only [PPl.v,PPl.cells,V.closed,Qc,V.noSl,UB,and_self]) (by unfold JB;(repeat' split)<;>simp only [PPl.v,PPl.cells,V.closed,Qc,V.noSl,UB,and_self]) fun C hC hm=>?_
 subst hC
 simp only [yD,qd,DC.ac]
 obtain ⟨src,host,mach,day,conf,kind,subj,alg,bits,num,text⟩:=f0
 simp only [JB,Qa.v,Qa.cells,PPl.v,PPl.cells]
 have E:∀ n:Int,kind≠n→(kind == n) = false:=fun n h=>by simpa using h
 by_cases k1:kind = 1
 ·subst k1
  rw [if_pos (.inl rfl)]
  exact zg
 by_cases k8:kind = 8
 ·subst k8
  rw [if_pos (.inr rfl)]
  exact zg
 rw [if_neg (by simp [k1,k8])]
 by_cases k2:kind = 2
 ·subst k2
  rw [if_pos (.inl rfl)]
  exact zg
 by_cases k6:kind = 6
 ·subst k6
  rw [if_pos (.inr rfl)]
  exact zg
 rw [if_neg (by simp [k2,k6])]
 have e1:=E 1 k1
 have e8:=E 8 k8
 have e2:=E 2 k2
 have e6:=E 6 k6
 by_cases k7:kind = 7
 ·subst k7
  rw [if_pos rfl]
  exact zg
 rw [if_neg k7]
 have e7:=E 7 k7
 (have zx:=za e1 (za e8 (za e2 (za e6 e7))));exact zg
def W7:=qd Proofs.Tryz.f92 [zhn 37]
def Ux (Γ:Env) (f:Nat):Prop:=Own Γ.P f∧∀ G:Env,G.P = Γ.P→∀ a b:Qe,EvN G f [a.v,b.v] (V.int (ac6 a b))
theorem abe {Γ:Env} {f:Nat} (h:Has Γ.P f 41 W7.1.1.ac W7.1.2) (z0:Vd Γ 119) (z1:Yh Γ 120) (z2:U3 Γ 118):Ux Γ f:=by
 refine ⟨h.own,fun G hG a b=>?_⟩
 have p1:=z0 G hG a.subj b.subj
 have p2:=z1 G hG a.kind b.kind
 have p3:=z1 G hG a.alg b.alg
 have p4:=z1 G hG a.bits b.bits
 have p5:=z1 G hG a.num b.num
 have p6:=z0 G hG a.text b.text
 have p7:=z2 G hG [qP a.subj b.subj,YA a.kind b.kind,YA a.alg b.alg,YA a.bits b.bits,YA a.num b.num,qP a.text b.text] (by simp)
 rw [← hG] at h
 refine Qb h (by simp) (by simp only [V.closed]) (by simp only [V.noSl]) fun C hC hm=>?_
 subst hC;simp only [W7,qd,DC.ac]
 have p1:=p1.b
 have p2:=p2.b
 have p3:=p3.b
 have p4:=p4.b
 have p5:=p5.b
 have p6:=p6.b
 have p7:=p7.b
 simp only [Qe.v,Qe.cells,ac6,zN,zL] at *
 exact zg
theorem arp (p q:PPl):Ji [1,1,0,0,0,0] p.cells q.cells = some (decide (p = q)):=by
 obtain ⟨a1,a2,a3,a4,a5,a6⟩:=p
 obtain ⟨b1,b2,b3,b4,b5,b6⟩:=q
 have hs:∀ x y:List UInt8,((⟨x.toArray⟩:ByteArray) == ⟨y.toArray⟩) = decide (x = y):=fun x y=>by
  rw [Zv,aec];simp
 simp only [PPl.cells,V.str,V.int,Ji,hs,if_true,Option.map_some,PPl.mk.injEq]
 congr 1
 rw [Zv]
 simp
def aj6 (p:PPl):List PPl→Nat→Option Nat
 | [],_=>none
 | e :: r,i=>if p = e then some i else aj6 p r (i + 1)
theorem af9 (p:PPl):∀ (ks:List PPl) (i:Nat),KO true [1,1,0,0,0,0] p.v (ks.map PPl.v) i = some (aj6 p ks i)
 | [],_=>rfl
 | e :: r,i=>by
   have h:Ki true [1,1,0,0,0,0] p.v e.v = some (decide (p = e)):=arp p e
   rw [zN,KO,h]
   by_cases hk:p = e
   ·subst hk;simp [aj6]
   ·rw [zp hk];simp only [aj6,if_neg hk]
    exact af9 p r (i + 1)
theorem am3 (p:PPl):Ki true [1,1,0,0,0,0] p.v p.v = some true:=by
 have:Ki true [1,1,0,0,0,0] p.v p.v = some (decide (p = p)):=arp p p
 rw [this];simp
structure Cm {α:Type} (c:α→α→Int):Prop where
 neg:∀ a b,c b a = - c a b
 tr:∀ a b d,c a b≤0→c b d≤0→c a d≤0
 ze:∀ a b d,c a b≤0→c b d≤0→c a d = 0→c a b = 0
def JX (Γ:Env) (f:Nat):Prop:=∀ (xs:List Qe) (g:Nat) (c:Qe→Qe→Int) (hg:Own Γ.P g) (hcmp:∀ x y,EvN Γ.T g [Qe.v x,Qe.v y] (V.int (c x y))) (hc:Cm c) (hd:∀ a∈xs,∀ b∈xs,c a b = 0→a = b) (hx:xs.length < 2 ^ 40),EvL Γ f [.clo g []] 8 (xs.map Qe.v) (.tup []) (((jF (fun x y=>decide (c x y < 0)) xs).map Qe.v))
def WD (Γ:Env) (f:Nat):Prop:=∀ (xs:List Int) (hx:xs.length < 2 ^ 40),EvL Γ f [] 1 (xs.map V.int) (.tup []) (((jF (fun x y:Int=>decide (x < y)) xs).map V.int))
section
variable {α:Type}
def ab6 (eq:α→α→Bool):α→List α→List α
 | _,[]=>[]
 | p,x :: r=>if eq x p = true then ab6 eq x r else x :: ab6 eq x r
def ab8 (eq:α→α→Bool):List α→List α
 | []=>[]
 | x :: r=>x :: ab6 eq x r
end
def JA:=qd Proofs.Tryz.f113 [zhn 10,zhn 10]
def Ya (Γ:Env) (f:Nat):Prop:=∀ (xs:List Int) (hx:xs.length < 2 ^ 34),EvZ Γ f [] 1 (xs.map V.int) ((ab8 (fun x y:Int ↦ x == y) xs).length) ((ab8 (fun x y:Int ↦ x == y) xs).map V.int++List.replicate (xs.length - (ab8 (fun x y:Int ↦ x == y) xs).length) (V.int 0))
theorem Kg {Γ:Env} {f:Nat} (h:Has Γ.P f 61 JA.1.1.ac JA.1.2) :Ya Γ f:=by
 intro xs hx
 refine acr h (by simp) fun C hC hm=>?_
 subst hC
 simp only [JA,qd,DC.ac]
 have hlen:(xs.map V.int).length = xs.length:=zb _
 generalize heq:(fun x y:Int=>x == y) = eq
 have heq2:∀ x y:Int,(x == y) = eq x y:=fun x y=>by rw [← heq]
 by_cases h2:xs.length < 2
 ·have e1:decide (((xs.map V.int).length:Int) < 2) = true:=zo (by rw [hlen];omega)
  have hg:ab8 eq xs = xs:=by
   match xs,h2 with
   | [],_=>rfl
   | [x],_=>rfl
  rw [hg,kD]
  repeat' (first|(refine zsk ?_;intro K' hK)|(refine zrg ?_;intro K' hK)|refine zsp ?_|(refine zsc ?_ ?_<;>intro hc<;>first|exact znh|try simp only [znz] at hc)|simp (maxSteps:=1000000) only [go_sem,e1]|(refine hK _ ?_;clear hK K')|apply zan|exact zsq|fail)
  all_goals first|(refine agk _ rfl rfl rfl ?_ ?_<;>first|rfl|(simp;done))
 ·have e1:decide (((xs.map V.int).length:Int) < 2) = false:=zp (by rw [hlen];omega)
  repeat' (first|(refine zsk ?_;intro K' hK)|(refine zrg ?_;intro K' hK)|refine zsp ?_|(refine zsc ?_ ?_<;>intro hc<;>first|exact znh|try simp only [znz] at hc)|simp (maxSteps:=1000000) only [go_sem,e1]|(refine hK _ ?_;clear hK K')|apply zan|exact zsq|fail)
  refine Qz (ι:=Nat) (fun k=>1≤k∧k≤xs.length∧∃ p,xs[k - 1]? = some p∧ab8 eq xs = xs.take k++ab6 eq p (xs.drop k)) (fun k=>[(3,V.int k)]) (fun k=>xs.length - k) 1 (by omega) ⟨by omega,by omega,?_⟩ zol zlt zet fun k hk K' hL=>?_
  ·match xs,h2 with
   | x :: r,_=>exact ⟨x,rfl,rfl⟩
   | [],h2=>exact absurd (by simp) h2
  obtain ⟨hk1,hk2,p,hp,hinv⟩:=hk
  simp only [ovT,JE,Nat.reduceEqDiff,reduceIte]
  by_cases hke:k = xs.length
  ·have e2:decide ((k:Int) < ((xs.map V.int).length:Int)) = false:=zp (by rw [hlen];omega)
   have hg:ab8 eq xs = xs:=by rw [hinv,hke,zQ,List.drop_length];simp [ab6]
   rw [hg,kD]
   repeat' (first|(refine zsk ?_;intro K' hK)|(refine zrg ?_;intro K' hK)|refine zsp ?_|(refine zsc ?_ ?_<;>intro hc<;>first|exact znh|try simp only [znz] at hc)|simp (maxSteps:=1000000) only [go_sem,e2]|(refine hK _ ?_;clear hK K')|apply zan|exact zsq|fail)
   all_goals first|(refine agk _ rfl rfl rfl ?_ ?_<;>first|rfl|(simp;done))
  ·have e2:decide ((k:Int) < ((xs.map V.int).length:Int)) = true:=zo (by rw [hlen];omega)
   obtain ⟨y,hy⟩:∃ y,xs[k]? = some y:=⟨_,zd (by omega)⟩
   have hdy:xs.drop k = y :: xs.drop (k + 1):=by
    obtain ⟨h1,h2⟩:=zn.1 hy
    rw [kH h1,h2]
   rw [hdy,ab6] at hinv
   have hw:=Qg (k:=k) (by omega)
   have hwm:IntKind.i64.wrap ((k:Int) - 1) = ((k - 1:Nat):Int):=by rw [QP (by omega) (by omega)];omega
   have vy:(xs.map V.int)[k]? = some (V.int y):=by rw [zi,hy];rfl
   have vp:(xs.map V.int)[k - 1]? = some (V.int p):=by rw [zi,hp];rfl
   skip
   have hq:=heq2 y p
   have r1:((k:Int) < ((xs.map V.int).length:Int)) = True:=eq_true (by rw [hlen];omega)
   have r2:((k - 1:Nat):Int) < ((xs.map V.int).length:Int):=by rw [hlen];omega
   rcases hb:eq y p with _|_
   ·rw [hb] at hq
    simp only [hb,zB,if_false] at hinv
    repeat' (first|(refine zsk ?_;intro K' hK)|(refine zrg ?_;intro K' hK)|refine zsp ?_|(refine zsc ?_ ?_<;>intro hc<;>first|exact znh|try simp only [znz] at hc)|simp (maxSteps:=1000000) only [go_sem,e2,hw,hwm,Int.toNat_natCast,vy,vp,hq]|(refine hK _ ?_;clear hK K')|apply zan|exact zsq|fail)
    all_goals first
     | exact hL _ (k + 1) zet ⟨by omega,by omega,y,by rw [Nat.add_sub_cancel];exact hy,by rw [hinv,zR,hy];simp⟩ (by omega) zoe
     | exact r2
   ·rw [hb] at hq
    simp only [hb,if_true] at hinv
    repeat' (first|(refine zsk ?_;intro K' hK)|(refine zrg ?_;intro K' hK)|refine zsp ?_|(refine zsc ?_ ?_<;>intro hc<;>first|exact znh|try simp only [znz] at hc)|simp (maxSteps:=1000000) only [go_sem,e2,hw,hwm,Int.toNat_natCast,vy,vp,hq]|(refine hK _ ?_;clear hK K')|apply zan|exact zsq|fail)
    all_goals first
     | exact r2
     | skip
    refine Qp (ι:=List Int×Nat×Nat) (fun q=>q.1.length = xs.length∧1≤q.2.2∧k + q.2.2≤xs.length∧k≤q.2.1∧q.2.1≤k + q.2.2 - 1∧q.1.drop (k + q.2.2 - 1) = xs.drop (k + q.2.2 - 1)∧∃ z,xs[k + q.2.2 - 1]? = some z∧ab8 eq xs = q.1.take q.2.1++ab6 eq z (xs.drop (k + q.2.2)))
     (fun q=>Jk [(0,.hd 0 0 (xs.map V.int).length),(3,V.int q.2.1),(4,.hd 0 k (xs.length - k)),(5,V.int q.2.2)] [(0,.buf true 1 (q.1.map V.int))] 1) (fun q=>xs.length - q.2.2) (xs,k,1)
     ⟨rfl,by simp only;omega,by simp only;omega,by simp only;omega,by simp only;omega,rfl,y,by simp only [Nat.add_sub_cancel];exact hy,by rw [hinv]⟩ (Qd []) (Qh [] (by simp only [go_sem,zwl];first|done|(simp only [zb];(repeat' (first|rfl|apply za|omega|exact fun h=>h|exact Exists.intro _ rfl)))|(repeat' (first|rfl|apply za|omega|exact fun h=>h|exact Exists.intro _ rfl))) zwa (by simp) (by simp) (by omega)) fun q hq K2 hL2=>?_
    obtain ⟨B,w,j⟩:=q
    obtain ⟨hB,hj1,hj2,hw1,hw2,hdr,z,hz,hinv2⟩:=hq
    dsimp only at hB hj1 hj2 hw1 hw2 hdr hz hinv2
    have hBl:(B.map V.int).length = xs.length:=by rw [zb,hB]
    have hwj:=Qg (k:=j) (by omega)
    have hww:=Qg (k:=w) (by omega)
    by_cases hje:k + j = xs.length
    ·have e3:decide ((j:Int) < ((xs.length - k:Nat):Int)) = false:=zp (by omega)
     have hg:ab8 eq xs = B.take w:=by rw [hinv2,hje,List.drop_length];simp [ab6]
     have hgl:(ab8 eq xs).length = w:=by rw [hg,zT,hB];omega
     have r3:((w:Int)≤((xs.map V.int).length:Int)) = True:=eq_true (by rw [hlen];omega)
     rw [hgl,hg]
     repeat' (first|(refine zsk ?_;intro K' hK)|(refine zrg ?_;intro K' hK)|refine zsp ?_|(refine zsc ?_ ?_<;>intro hc<;>first|exact znh|try simp only [znz] at hc)|simp (maxSteps:=1000000) only [go_sem,Jk,e3,Int.toNat_natCast]|(refine hK _ ?_;clear hK K')|apply zan|exact zsq|fail)
     all_goals first
      | (rw [hlen];omega)
      | (refine agk _ rfl rfl rfl ?_ ?_<;>first|rfl|(rw [Z5 (by rw [hBl,hlen];omega),km,kp,hlen];first|done|rfl)|(simp;done))
    ·have e3:decide ((j:Int) < ((xs.length - k:Nat):Int)) = true:=zo (by omega)
     obtain ⟨u,hu⟩:∃ u,xs[k + j]? = some u:=⟨_,zd (by omega)⟩
     have hdu:xs.drop (k + j) = u :: xs.drop (k + j + 1):=by
      obtain ⟨h1,h2⟩:=zn.1 hu
      rw [kH h1,h2]
     rw [hdu,ab6] at hinv2
     have bz:B[k + (j - 1)]? = some z:=by
      have:(B.drop (k + j - 1))[0]? = (xs.drop (k + j - 1))[0]?:=by rw [hdr]
      rw [Ze,Ze,Nat.add_zero,hz] at this
      rw [← this];congr 1;omega
     have bu:B[k + j]? = some u:=by
      have:(B.drop (k + j - 1))[1]? = (xs.drop (k + j - 1))[1]?:=by rw [hdr]
      rw [Ze,Ze,show k + j - 1 + 1 = k + j by omega,hu] at this
      exact this
     have vz:(B.map V.int)[k + (j - 1)]? = some (V.int z):=by rw [zi,bz];rfl
     have vu:(B.map V.int)[k + j]? = some (V.int u):=by rw [zi,bu];rfl
     have bw:∃ t,B[w]? = some t:=⟨_,zd (by omega)⟩
     obtain ⟨t,bw⟩:=bw
     have vt:(B.map V.int)[w]? = some (V.int t):=by rw [zi,bw];rfl
     have hset:(B.map V.int).set w (V.int u) = (B.set w u).map V.int:=Z3.symm
     have hwm2:IntKind.i64.wrap ((j:Int) - 1) = ((j - 1:Nat):Int):=by rw [QP (by omega) (by omega)];omega
     skip
     have hq:=heq2 u z
     have r4:(((w:Int)) < ((xs.map V.int).length:Int)) = True:=eq_true (by rw [hlen];omega)
     have r5:((j:Int) < ((xs.length - k:Nat):Int)) = True:=eq_true (by omega)
     have r6:((((j - 1:Nat):Int)) < ((xs.length - k:Nat):Int)) = True:=eq_true (by omega)
     rcases hb2:eq u z with _|_
     ·rw [hb2] at hq
      simp only [hb2,zB,if_false] at hinv2
      repeat' (first|(refine zsk ?_;intro K' hK)|(refine zrg ?_;intro K' hK)|refine zsp ?_|(refine zsc ?_ ?_<;>intro hc<;>first|exact znh|try simp only [znz] at hc)|simp (maxSteps:=1000000) only [go_sem,Jk,e3,hwj,hww,hwm2,Int.toNat_natCast,vz,vu,vt,hset,hq,r4,r5,r6,bne]|(refine hK _ ?_;clear hK K')|apply zan|exact zsq|fail)
      all_goals first
       | exact hL2 _ (B.set w u,w + 1,j + 1) (Qd []) ⟨by simp only [zP];exact hB,by simp only;omega,by simp only;omega,by simp only;omega,by simp only;omega,by
          simp only
          rw [List.drop_set_of_lt (by omega),show k + (j + 1) - 1 = (k + j - 1) + 1 by omega,← Zg,hdr,Zg],u,by simp only;rw [show k + (j + 1) - 1 = k + j by omega];exact hu,by
          simp only
          rw [hinv2,show k + (j + 1) = k + j + 1 by omega,zR,ZE (by omega),List.take_set_of_le (zh _)];simp⟩ (by simp only;omega) (zwg [])
       | (rw [hlen];omega)
     ·rw [hb2] at hq
      simp only [hb2,if_true] at hinv2
      repeat' (first|(refine zsk ?_;intro K' hK)|(refine zrg ?_;intro K' hK)|refine zsp ?_|(refine zsc ?_ ?_<;>intro hc<;>first|exact znh|try simp only [znz] at hc)|simp (maxSteps:=1000000) only [go_sem,Jk,e3,hwj,hww,hwm2,Int.toNat_natCast,vz,vu,vt,hset,hq,r4,r5,r6,bne]|(refine hK _ ?_;clear hK K')|apply zan|exact zsq|fail)
      all_goals first
       | exact hL2 _ (B,w,j + 1) (Qd []) ⟨hB,by simp only;omega,by simp only;omega,by simp only;omega,by simp only;omega,by
          simp only
          rw [show k + (j + 1) - 1 = (k + j - 1) + 1 by omega,← Zg,hdr,Zg],u,by simp only;rw [show k + (j + 1) - 1 = k + j by omega];exact hu,by simp only;rw [hinv2,show k + (j + 1) = k + j + 1 by omega]⟩ (by simp only;omega) (zwg [])
end Av
end
