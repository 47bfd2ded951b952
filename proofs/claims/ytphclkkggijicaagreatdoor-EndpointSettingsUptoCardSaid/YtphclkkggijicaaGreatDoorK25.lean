/- Functions that are lent a buffer of their caller's and answer the slice that takes its place (as append does), or the same one. -/
import Derived.Test.YtphclkkggijicaaGreatDoorK20
import Derived.Test.YtphclkkggijicaaGreatDoorK18
import Derived.Test.YtphclkkggijicaaGreatDoorK12
import Derived.Test.YtphclkkggijicaaGreatDoorK24
set_option linter.unusedVariables false
set_option linter.unusedSimpArgs false
noncomputable section
set_option maxRecDepth 10000
set_option maxHeartbeats 4000000
namespace Av
open Go
attribute [local irreducible] AWp Vo Ky jA awS awC aad awQ aaN QL Vq vQ awR Vz awB okR js ris
section
variable {α:Type}
def gK (lt:α→α→Bool) (out:List α) (x:α):Nat→Nat
 | 0=>0
 | k + 1=>if (match out[k]? with|some y=>lt x y|none=>false) = true then gK lt out x k else k + 1
theorem apu (lt:α→α→Bool) (out:List α) (x:α):∀ k,gK lt out x k≤k
 | 0=>zi _
 | k + 1=>by
   rw [gK]
   by_cases h:(match out[k]? with|some y=>lt x y|none=>false) = true
   ·rw [if_pos h];exact Nat.le_succ_of_le (apu lt out x k)
   ·rw [if_neg h];exact zi _
def ajd (lt:α→α→Bool) (out:List α) (x:α):List α:=out.take (gK lt out x out.length)++[x]++out.drop (gK lt out x out.length)
def adi (lt:α→α→Bool) (l:List α):List α:=l.foldl (ajd lt) []
theorem anM (lt:α→α→Bool) (out:List α) (x:α):(ajd lt out x).length = out.length + 1:=by
 have:=apu lt out x out.length
 simp [ajd];omega
theorem agL (lt:α→α→Bool):∀ (l out:List α),(l.foldl (ajd lt) out).length = out.length + l.length
 | [],out=>by simp
 | x :: r,out=>by rw [List.foldl_cons,agL lt r,anM];simp;omega
theorem agN (lt:α→α→Bool) (l:List α):(adi lt l).length = l.length:=by rw [adi,agL];simp
theorem anL {lt:α→α→Bool} {out:List α} {x y:α}:y∈ajd lt out x↔y = x∨y∈out:=by
 have:y∈out↔y∈out.take (gK lt out x out.length)∨y∈out.drop (gK lt out x out.length):=by
  rw [← zW,zZ]
 simp only [ajd,zW,zQ,this]
 constructor
 ·rintro ((h|h)|h)
  ·exact .inr (.inl h)
  ·exact .inl h
  ·exact .inr (.inr h)
 ·rintro (h|h|h)
  ·exact .inl (.inr h)
  ·exact .inl (.inl h)
  ·exact .inr h
theorem agK {lt:α→α→Bool} {y:α}:∀ (l out:List α),y∈l.foldl (ajd lt) out↔y∈out∨y∈l
 | [],out=>by simp
 | x :: r,out=>by
   rw [List.foldl_cons,agK r,anL,zn]
   constructor
   ·rintro ((h|h)|h)
    ·exact .inr (.inl h)
    ·exact .inl h
    ·exact .inr (.inr h)
   ·rintro (h|h|h)
    ·exact .inl (.inr h)
    ·exact .inl (.inl h)
    ·exact .inr h
theorem al8 {lt:α→α→Bool} {y:α} {l:List α}:y∈adi lt l↔y∈l:=by rw [adi,agK];simp
theorem ama {lt:α→α→Bool} {out:List α} {x:α}:(ajd lt out x).Perm (x :: out):=by
 have h:(out.take (gK lt out x out.length)++out.drop (gK lt out x out.length)).Perm out:=by rw [zZ]
 rw [ajd,zP,List.singleton_append]
 exact kY.trans (h.cons x)
theorem ael {lt:α→α→Bool}:∀ (l out:List α),(l.foldl (ajd lt) out).Perm (l++out)
 | [],out=>by simp
 | x :: r,out=>by
   rw [List.foldl_cons,List.cons_append]
   exact ((ael r (ajd lt out x)).trans (List.Perm.append_left r ama)).trans kY
theorem xJ {lt:α→α→Bool} {l:List α}:(adi lt l).Perm l:=by have:=ael (lt:=lt) l [];rwa [zU] at this
def Ord (lt:α→α→Bool) (l:List α):Prop:=l.Pairwise fun x y=>lt y x = false
theorem al9 {lt:α→α→Bool} {out:List α} {x:α}:∀ k,k≤out.length→(∀ j,gK lt out x k≤j→j < k→∀ y,out[j]? = some y→lt x y = true)∧(0 < gK lt out x k→∀ y,out[gK lt out x k - 1]? = some y→lt x y = false)
 | 0,_=>⟨fun j h1 h2=>by omega,fun h=>by simp [gK] at h⟩
 | k + 1,hk=>by
   obtain ⟨i1,i2⟩:=al9 (lt:=lt) (out:=out) (x:=x) k (by omega)
   have hy:out[k]? = some out[k]:=ze (by omega)
   simp only [gK,hy]
   split
   ·rename_i h
    refine ⟨fun j h1 h2 y e=>?_,i2⟩
    by_cases hj:j = k
    ·subst hj;rw [hy] at e;cases e;exact h
    ·exact i1 j h1 (by omega) y e
   ·rename_i h
    refine ⟨fun j h1 h2=>by omega,fun _ y e=>?_⟩
    rw [Nat.add_sub_cancel,hy] at e;cases e
    simpa using h
theorem anK {lt:α→α→Bool} (htr:∀ x y z,lt y x = false→lt z y = false→lt z x = false) (has:∀ x y,lt x y = true→lt y x = false) {out:List α} {x:α} (h:Ord lt out):Ord lt (ajd lt out x):=by
 obtain ⟨h1,h2⟩:=al9 (lt:=lt) (out:=out) (x:=x) out.length (zi _)
 have hle:=apu lt out x out.length
 unfold Ord ajd at *
 generalize gK lt out x out.length = k at *
 have hto:(out.take k).Pairwise fun x y=>lt y x = false:=h.sublist (List.take_sublist _ _)
 have hdr:(out.drop k).Pairwise fun x y=>lt y x = false:=h.sublist (List.drop_sublist _ _)
 have hcr:∀ a∈out.take k,∀ b∈out.drop k,lt b a = false:=by
  have:=h
  rw [← zZ k out,List.pairwise_append] at this
  exact this.2.2
 have hx1:∀ a∈out.take k,lt x a = false:=by
  intro a ha
  rcases k9 k with hk|hk
  ·subst hk;simp at ha
  ·have hlast:out[k - 1]? = some out[k - 1]:=ze (by omega)
   have hxl:=h2 hk _ hlast
   obtain ⟨i,hi,rfl⟩:=kx ha
   simp only [zJ] at hi
   rw [List.getElem_take]
   by_cases e:i = k - 1
   ·subst e;exact hxl
   ·have:=(List.pairwise_iff_getElem.1 h) i (k - 1) (by omega) (by omega) (by omega)
    exact htr _ _ _ this hxl
 have hx2:∀ b∈out.drop k,lt b x = false:=by
  intro b hb
  obtain ⟨i,hi,rfl⟩:=kx hb
  rw [List.getElem_drop]
  simp only [Zl] at hi
  exact has _ _ (h1 (k + i) (by omega) (by omega) _ (ze (by omega)))
 rw [zP,List.singleton_append,List.pairwise_append]
 refine ⟨hto,Za.2 ⟨hx2,hdr⟩,fun a ha b hb=>?_⟩
 rcases zn.1 hb with rfl|hb
 ·exact hx1 a ha
 ·exact hcr a ha b hb
theorem agJ {lt:α→α→Bool} (htr:∀ x y z,lt y x = false→lt z y = false→lt z x = false) (has:∀ x y,lt x y = true→lt y x = false):∀ (l out:List α),Ord lt out→Ord lt (l.foldl (ajd lt) out)
 | [],_,h=>h
 | x :: r,out,h=>agJ htr has r _ (anK htr has h)
theorem agM {lt:α→α→Bool} (htr:∀ x y z,lt y x = false→lt z y = false→lt z x = false) (has:∀ x y,lt x y = true→lt y x = false) (l:List α):Ord lt (adi lt l):=agJ htr has l [] List.Pairwise.nil
end
end Av
end
section
namespace Av
open Go
section
variable {Γ:Env} {A W:Nat→Bool} {b:Nat} {r:List AO} {s:St} {d:Option Nat} {f:FuncId} {acts args:List V} {okf:Option (List Nat)→Prop} {J K:St→Prop} {a n sx:Nat} {xs ys:List V} {x:V}
end
theorem arY {x y n:Nat} {o:Nat→Option Ob}:jM (some [x,y]) [] o n = if n = x then (o n).map Ob.frz else if n = y then (o n).map Ob.frz else o n:=by
 simp only [jM,zn,zw,or_false,not_false_eq_true,and_true]
 by_cases h1:n = x<;>by_cases h2:n = y<;>simp [h1,h2]
theorem arX {x y:Nat}:(x∈[x,y]) = True:=by simp
theorem arW {x y:Nat}:(y∈[x,y]) = True:=by simp
theorem ar8 {n:Int}:([V.sc (Value.int IntKind.i64 n)].all (UB IntKind.i64) = true) = True:=by simp [UB]
attribute [go_sem] arY arX arW ar8
end Av
end
noncomputable section
set_option maxRecDepth 10000
set_option maxHeartbeats 4000000
namespace Av
open Go
attribute [local irreducible] AWp Vo Ky jA awS awC aad awQ aaN QL Vq vQ awR Vz awB okR js ris
structure aok where
 src:Int
 host:List UInt8
 mach:Int
 day:Int
 conf:Int
 kind:Int
 subj:List UInt8
 alg:Int
 bits:Int
 num:Int
 text:List UInt8
 deriving DecidableEq
def aok.cells (f:aok):List V:=[V.int f.src,V.str f.host,V.int f.mach,V.int f.day,V.int f.conf,V.int f.kind,V.str f.subj,V.int f.alg,V.int f.bits,V.int f.num,V.str f.text]
def aok.v (f:aok):V:=.agg f.cells
abbrev V.u64 (n:Int):V:=.sc (.int .u64 n)
def WF (Γ:Env) (f:Nat):Prop:=∀ (xs:List Int) (hx:xs.length < 2 ^ 40),EvL Γ f [] 1 (xs.map V.int) (.tup []) (((adi (fun x y:Int=>decide (x < y)) xs).map V.int))
theorem Yf {rs:List V8} {res:V} {s:St} {cs cs2:List V} (vs:List V) (h:vn s rs = some vs) (ho:s.o 0 = some (.box true cs)) (h2:Qz s.o [0] none cs cs2) (hc:conv s.o [0] none (ahG vs) res):xP 1 rs res [.box true cs2] s :=
 Wb rs vs _ h ⟨[0],none,hc,⟨⟨_,ho,fun h=>h,h2⟩,trivial⟩,by simp,rfl⟩
theorem yF {o:Nat→Option Ob} {br:List Nat} {n sz:Nat} {xs:List V} (h:o n = some (.buf true sz xs)) (hn:n ∉ br):conv o br none (.hd n 0 xs.length) (.sl sz xs):=by
 rw [anV]
 exact ⟨trivial,hn,.inl ⟨true,_,h,by rw [ku,zb (zi _)]⟩⟩
theorem aaL {α:Type} {f:α→V} {l:List α} {o:Nat→Option Ob} {br:List Nat} {n sz:Nat} (h:o n = some (.buf true sz (l.map f))) (hn:n ∉ br):conv o br none (.hd n 0 l.length) (.sl sz (l.map f)):=by
 have:=yF h hn;rwa [zh] at this
def ari (s:St) (br:List Nat):List (Nat×V)→Prop
 | []=>True
 | p :: r=>conv s.o br none (s.t p.1) p.2∧ari s br r
theorem aiL {s:St} {br:List Nat}:∀ {ts:List (Nat×V)},ari s br ts→∀ p∈ts,conv s.o br none (s.t p.1) p.2
 | [],_,p,hp=>by cases hp
 | q :: r,h,p,hp=>by
   rcases zn.1 hp with rfl|hp
   ·exact h.1
   ·exact aiL h.2 p hp
theorem wK {m:Nat} {s:St} {ts:List (Nat×V)} {os:List Ob} (br:List Nat) (hf:br.take m = List.range m) (ho:ane s.o br none br os)
  (ht:ari s br ts:=by repeat' (first|exact trivial|(show conv _ _ _ (.ptr _ _) (.ptr _ _);simp [conv];done)|exact Qr _ _ _ (V.int _) trivial|exact Qr _ _ _ (V.bool _) trivial|exact Qr _ _ _ (.sl _ _) trivial|exact Qr _ _ _ (V.str _) trivial|(show conv _ _ _ (.hd _ 0 _) (.hd _ 0 _);simp [conv];done)|exact aaL rfl (by decide)|refine za ?_ ?_)) (hn:br.Nodup:=by decide):Cl m s (stL ts os):=ais br none (aiL ht) ho hn hf
def XP:=qd Proofs.Tryz.f103 []
def Vj (Γ:Env) (f:Nat):Prop:=∀ (s:List UInt8) (hs:s.length < 2 ^ 30),EvN Γ f [V.str s] (.tup [V.int (Xo s),V.bool (aaK s && wc (Xo s))])
theorem vE {Γ:Env} {f:Nat} (h:Has Γ.P f 17 XP.1.1.ac XP.1.2) (z0:YT Γ 150) (z1:JQ Γ 55):Vj Γ f:=by
 intro s hs
 refine Qb h zsi (by simp only [V.closed,Qa,V.noSl,Um,and_self]) (by simp only [V.closed,Qa,V.noSl,Um,and_self]) fun C hC hm=>?_
 subst hC
 simp only [XP,qd,DC.ac]
 have hd:=(z0 s hs).b
 have hk:=(z1 (Xo s)).b
 rcases hq:aaK s with _|_
 ·rw [hq] at hd
  exact zg
 ·rw [hq] at hd
  exact zg
def Yx:=qd Proofs.Tryz.f105 []
def Xs (Γ:Env) (f:Nat):Prop:=∀ (s:List UInt8),EvN Γ f [V.str s] (.tup [V.int (JR s 0 QR),V.bool (Un (JR s 0 QR))])
theorem y8 {Γ:Env} {f:Nat} (h:Has Γ.P f 10 Yx.1.1.ac Yx.1.2) (z0:Vn Γ 154) (z1:Wr Γ 56):Xs Γ f:=by
 intro s
 refine Qb h zsi (by simp only [V.closed,Qa,V.noSl,Um,and_self]) (by simp only [V.closed,Qa,V.noSl,Um,and_self]) fun C hC hm=>?_
 subst hC
 simp only [Yx,qd,DC.ac]
 have hf:=(z0 s).b
 have hh:=(z1 (JR s 0 QR)).b
 exact zg
def nuC (an:Bool) (e:QI) (st:List Qs) (v:V):List V:=match an with
 | true=>[V.str e.name,V.int e.least,V.int e.most,.sl 1 (e.suites.map V.int),V.bool e.own,.sl 4 (e.idents.map Qy.v),v,.sl 1 (e.hashes.map V.int),V.bool e.fall,.sl 6 (st.map Qs.v)]
 | false=>[V.str e.name,V.int e.least,V.int e.most,.sl 1 (e.suites.map V.int),V.bool e.own,.sl 4 (e.idents.map Qy.v),.sl 1 (e.anchors.map V.int),v,V.bool e.fall,.sl 6 (st.map Qs.v)]
def nuK:Bool→Nat|true=>6|false=>7
theorem apl {o:Nat→Option Ob} {br:List Nat} {B:Option (List Nat)} {an:Bool} {e:QI} {st:List Qs} {v u:V} (h:conv o br B v u):Qz o br B (nuC an e st v) (nuC an e st u):=by
 cases an<;>simp only [nuC,Qz]<;>simp [conv,h,V.int,V.str,V.bool]
@[simp] theorem alH (an:Bool) (e:QI) (st:List Qs) (t:Nat) (l:List V):Qa (nuC an e st (.sl t l)):=by
 cases an<;>simp [nuC,V.closed,Qa]
def wU (of:List UInt8→Int×Bool):List (List UInt8)→List Int→Bool×List Int
 | [],acc=>(true,acc)
 | s :: r,acc=>if (of s).2 = true∧(of s).1 ∉ acc then wU of r (acc++[(of s).1]) else (false,acc)
def afF (s:List UInt8):Int×Bool:=(Xo s,aaK s && wc (Xo s))
def ahF (s:List UInt8):Int×Bool:=(JR s 0 QR,Un (JR s 0 QR))
def jy (l:List Int):List Int:=adi (fun x y:Int=>decide (x < y)) l
def wV (of:List UInt8→Int×Bool) (most:Int) (l:List (List UInt8)):Bool×List Int:=if (wU of l []).1 = true then (decide ((l.length:Int)≤most),jy (wU of l []).2) else (false,(wU of l []).2)
def nuS (an:Bool) (e:QI) (st:List Qs) (l:List (List UInt8)) (most:Int) (g:Nat) (q:Nat×List Int):St:=Yd [(0,.ptr 0 (nuK an)),(1,.sl 1 (l.map V.str)),(2,V.int most),(3,.clo g []),(15,.sl 1 (l.map V.str)),(16,V.int l.length),(17,V.int q.1)] [(0,.box true (nuC an e st (.hd 1 0 q.2.length))),(1,.buf true 1 (q.2.map V.int))] 2
def Y8:=qd Proofs.Tryz.f102 []
def YW (Γ:Env) (f:Nat):Prop:=∀ (l:List (List UInt8)) (e:QI) (st:List Qs) (an:Bool) (most:Int) (g:Nat) (of:List UInt8→Int×Bool) (hg:∀ s∈l,EvN Γ g [V.str s] (.tup [V.int (of s).1,V.bool (of s).2])) (hl:l.length < 2 ^ 34),EvF Γ f (nuK an) [.sl 1 (l.map V.str),V.int most,.clo g []] (drC e st) (V.bool (wV of most l).1) (nuC an e st (.sl 1 ((wV of most l).2.map V.int)))
attribute [local go_sem] Yd nuC nuK nuS in
theorem wB {Γ:Env} {f:Nat} (h:Has Γ.P f 53 Y8.1.1.ac Y8.1.2) (z0:Qt Γ 117) (z1:WF Γ 153):YW Γ f:=by
 intro l e st an most g of hg hl
 refine wH h (by simp) (by first|exact J2 _ _|exact alH _ _ _ _ _|simp only [V.closed,Qa,and_self]) (by first|exact PDraft.cells_closed _|exact Qk _ _|simp only [V.closed,Qa,and_self,and_true,true_and]|(simp [V.closed,Qa];done)) (by first|exact PDraft.cells_closed _|exact Qk _ _|simp only [V.closed,Qa,and_self,and_true,true_and]|(simp [V.closed,Qa];done)) fun C hC hm=>?_
 subst hC
 simp only [Y8,qd,DC.ac]
 have hlm:(l.map V.str).length = l.length:=zh _
 generalize hG:wU of l [] = G
 have hcv:∀ (o:Nat→Option Ob) (n m:Nat) (acc:List Int),m = acc.length→o n = some (.buf true 1 (acc.map V.int))→n ∉ [0]→Qz o [0] none (nuC an e st (.hd n 0 m)) (nuC an e st (.sl 1 (acc.map V.int))):=fun o n m acc hm h hn=>apl (by subst hm;have:=yF h hn;rwa [zh] at this)
 rcases hb:an with _|_
 all_goals
  simp only [nuC,nuK,drC]
  (have zx:=hlm);refine zgo ?_;repeat' first|exact zt|apply zan|intro hc
  first|refine Ug 0 7 1 rfl rfl ?_|refine Ug 0 6 1 rfl rfl ?_
  refine QA (ι:=Nat×List Int) (fun q=>q.1≤l.length∧wU of (l.drop q.1) q.2 = G∧q.2.length = q.1) (fun q=>nuS an e st l most g q) (fun q=>l.length - q.1) (0,[]) ⟨zu _,hG,rfl⟩ (Qo [(1,7001)]) (JZ [(1,7001)] (by simp only [go_sem,zwl,nuS,nuC,nuK,hb]<;>exact zcc) (by simp only [go_sem,zwl,nuS,nuC,nuK,hb]<;>exact zcc) (by simp [Qo]) (by simp;omega) (by omega)) fun q hq K' hL=>?_
  obtain ⟨k,acc⟩:=q
  obtain ⟨hk,hinv,hal⟩:=hq
  simp only at hk hinv hal
  rw [hb] at hcv
  rcases hd:l.drop k with _|⟨s,r⟩
  ·have hkl:=Qj hd
   have e1:decide ((k:Int) < ((l.length:Nat):Int)) = false:=by simp;omega
   rw [hd,wU] at hinv
   subst hinv
   have hso:=z1 acc (by omega)
   have hln:acc.length = (adi (fun x y:Int=>decide (x < y)) acc).length:=(agN _ _).symm
   have hv:wV of most l = (decide ((l.length:Int)≤most),jy acc):=by rw [wV,hG,if_pos rfl]
   rw [hv]
   simp only [nuC] at hcv
   (have zx:=za hb (za e1 hlm));refine zgo ?_;repeat' first|exact zt|apply zan|intro hc
   all_goals exact Yf _ rfl rfl (hcv _ 1 _ _ hln rfl (by decide)) rfl
  ·obtain ⟨hk',hget,hr⟩:=Qf hd
   have hw:=Qc (k:=k) (by omega)
   have e1:decide ((k:Int) < ((l.length:Nat):Int)) = true:=by simp;omega
   rw [hd,wU] at hinv
   have hof:=(hg s (zk hget)).b
   have hct:=(z0 acc (of s).1 (by omega)).b
   have hfi:=Kc (of s).1 acc 0
   have hta:List.take acc.length (acc.map V.int) = acc.map V.int:=zb (by simp)
   generalize of s = p at *
   obtain ⟨n,ok⟩:=p
   simp only at hof hct hinv hfi
   rcases ok with _|_
   ·rw [if_neg (fun h=>by simp at h)] at hinv
    subst hinv
    have hv:wV of most l = (false,acc):=by rw [wV,hG,if_neg (by simp)]
    rw [hv]
    simp only [nuC] at hcv
    (have zx:=za hb (za e1 (za hw (za hlm hget))));refine zgo ?_;repeat' first|exact zt|apply zan|intro hc
    all_goals exact Yf _ rfl rfl (hcv _ 1 _ _ rfl rfl (by decide)) rfl
   ·by_cases hin:n∈acc
    ·rw [zl (hfi.2 hin)] at hct
     rw [if_neg (fun h=>h.2 hin)] at hinv
     subst hinv
     have hv:wV of most l = (false,acc):=by rw [wV,hG,if_neg (by simp)]
     rw [hv]
     simp only [nuC] at hcv
     (have zx:=za hb (za e1 (za hw (za hlm (za hget hta)))));refine zgo ?_;repeat' first|exact zt|apply zan|intro hc
     all_goals exact Yf _ rfl rfl (hcv _ 1 _ _ rfl rfl (by decide)) rfl
    ·rw [zm (fun h=>hin (hfi.1 h))] at hct
     rw [if_pos ⟨rfl,hin⟩] at hinv
     have hap:acc.map V.int++[V.int n] = (acc++[n]).map V.int:=by rw [zD];rfl
     have hla:acc.length + 1 = (acc++[n]).length:=by simp
     (have zx:=za hb (za e1 (za hw (za hlm (za hget (za hta (za hap hla)))))));refine zgo ?_;repeat' first|exact zt|apply zan|intro hc
     all_goals exact hL _ (k + 1,acc++[n]) (Qo [(1,27002)]) ⟨by simp only;omega,by rw [hr];exact hinv,by simp;omega⟩ (by simp only;omega) (JZ [(1,27002)] (by simp only [go_sem,zwl,nuS,nuC,nuK,hb]<;>exact zcc) (by simp only [go_sem,zwl,nuS,nuC,nuK,hb]<;>exact zcc) (by simp [Qo]) (by simp;omega) (by omega))
def Jz:=qd Proofs.Tryz.f101 []
def Q5 (Γ:Env) (f:Nat):Prop:=∀ (l:List (List UInt8)) (e:QI) (st:List Qs) (hs:∀ s∈l,s.length < 2 ^ 30) (hl:l.length < 2 ^ 34),EvH Γ f (.sl 1 (l.map V.str)) (drC e st) (V.bool (wV afF 16 l).1) (drC { e with anchors:=(wV afF 16 l).2 } st)
theorem KD {Γ:Env} {f:Nat} (h:Has Γ.P f 10 Jz.1.1.ac Jz.1.2) (z0:YW Γ 102) (z1:Vj Γ 103):Q5 Γ f:=by
 intro l e st hs hl
 refine Vv h (by simp) (by first|exact J2 _ _|simp only [V.closed,Qa,and_self]) (by first|exact PDraft.cells_closed _|exact Qk _ _|simp only [V.closed,Qa,and_self,and_true,true_and]|(simp [V.closed,Qa];done)) (by first|exact PDraft.cells_closed _|exact Qk _ _|simp only [V.closed,Qa,and_self,and_true,true_and]|(simp [V.closed,Qa];done)) fun C hC hm=>?_
 subst hC
 simp only [Jz,qd,DC.ac]
 have hv:=z0 l e st true 16 103 afF (fun s h=>z1 s (hs s h)) hl
 simp only [nuC,nuK,drC] at hv ⊢
 refine zgo ?_;repeat' first|exact zt|apply zan|intro hc
 all_goals first|(refine aeo _ rfl rfl rfl (by first|simp only [V.closed,Qa,and_self,and_true,true_and]|(simp [V.closed,Qa];done)) ?_;simp only [go_sem];done)
def Jy:=qd Proofs.Tryz.f104 []
def Q4 (Γ:Env) (f:Nat):Prop:=∀ (l:List (List UInt8)) (e:QI) (st:List Qs) (hl:l.length < 2 ^ 34),EvH Γ f (.sl 1 (l.map V.str)) (drC e st) (V.bool (wV ahF 22 l).1) (drC { e with hashes:=(wV ahF 22 l).2 } st)
theorem KC {Γ:Env} {f:Nat} (h:Has Γ.P f 10 Jy.1.1.ac Jy.1.2) (z0:YW Γ 102) (z1:Xs Γ 105):Q4 Γ f:=by
 intro l e st hl
 refine Vv h (by simp) (by first|exact J2 _ _|simp only [V.closed,Qa,and_self]) (by first|exact PDraft.cells_closed _|exact Qk _ _|simp only [V.closed,Qa,and_self,and_true,true_and]|(simp [V.closed,Qa];done)) (by first|exact PDraft.cells_closed _|exact Qk _ _|simp only [V.closed,Qa,and_self,and_true,true_and]|(simp [V.closed,Qa];done)) fun C hC hm=>?_
 subst hC
 simp only [Jy,qd,DC.ac]
 have hv:=z0 l e st false 22 105 ahF (fun s _=>z1 s) hl
 simp only [nuC,nuK,drC] at hv ⊢
 refine zgo ?_;repeat' first|exact zt|apply zan|intro hc
 all_goals first|(refine aeo _ rfl rfl rfl (by first|simp only [V.closed,Qa,and_self,and_true,true_and]|(simp [V.closed,Qa];done)) ?_;simp only [go_sem];done)
def aa5 (x:Qs):Qy:=⟨x.kalg,x.kbits,x.kid,x.chain⟩
def xQ (st:List Qs):List (List UInt8)→List Qy→Bool×List Qy
 | [],acc=>(true,acc)
 | s :: r,acc=>match y5 st s with|some x=>xQ st r (acc++[aa5 x])|none=>(false,acc)
def abr (st:List Qs) (l:List (List UInt8)):Bool×List Qy:=((xQ st l []).1 && decide ((l.length:Int)≤4),(xQ st l []).2)
def drI (e:QI) (st:List Qs) (v:V):List V:=[V.str e.name,V.int e.least,V.int e.most,.sl 1 (e.suites.map V.int),V.bool e.own,v,.sl 1 (e.anchors.map V.int),.sl 1 (e.hashes.map V.int),V.bool e.fall,.sl 6 (st.map Qs.v)]
theorem anU {o:Nat→Option Ob} {br:List Nat} {B:Option (List Nat)} {e:QI} {st:List Qs} {v u:V} (h:conv o br B v u):Qz o br B (drI e st v) (drI e st u):=by
 simp only [drI,Qz];simp [conv,h,V.int,V.str,V.bool]
theorem Ud:∀ l:List Qy,Kh (l.map Qy.v)
 | []=>trivial
 | x :: r=>⟨by simp [Qy.v,Qy.cells,V.cells,Qa,V.closed],Ud r⟩
def Yc:=qd Proofs.Tryz.f100 [⟨fun _=>false,[5,7,9,11],.one 0 (.one 1 (.one 2 (.one 3 (.one 4 (.one 6 (.one 8 (.one 10 (.or 5 (.or 7 (.or 9 (.one 11 (.one 12 (.one 13 (.one 14 (.one 15 (.one 16 (.one 17 (.one 18 (.done))))))))) (.or 11 (.one 9 (.one 12 (.one 13 (.one 14 (.one 15 (.one 16 (.one 17 (.one 18 (.done))))))))) (.done))) (.or 9 (.or 7 (.one 11 (.one 12 (.one 13 (.one 14 (.one 15 (.one 16 (.one 17 (.one 18 (.done))))))))) (.or 11 (.one 7 (.one 12 (.one 13 (.one 14 (.one 15 (.one 16 (.one 17 (.one 18 (.done))))))))) (.done))) (.or 11 (.or 7 (.one 9 (.one 12 (.one 13 (.one 14 (.one 15 (.one 16 (.one 17 (.one 18 (.done))))))))) (.or 9 (.one 7 (.one 12 (.one 13 (.one 14 (.one 15 (.one 16 (.one 17 (.one 18 (.done))))))))) (.done))) (.done)))) (.or 7 (.or 5 (.or 9 (.one 11 (.one 12 (.one 13 (.one 14 (.one 15 (.one 16 (.one 17 (.one 18 (.done))))))))) (.or 11 (.one 9 (.one 12 (.one 13 (.one 14 (.one 15 (.one 16 (.one 17 (.one 18 (.done))))))))) (.done))) (.or 9 (.or 5 (.one 11 (.one 12 (.one 13 (.one 14 (.one 15 (.one 16 (.one 17 (.one 18 (.done))))))))) (.or 11 (.one 5 (.one 12 (.one 13 (.one 14 (.one 15 (.one 16 (.one 17 (.one 18 (.done))))))))) (.done))) (.or 11 (.or 5 (.one 9 (.one 12 (.one 13 (.one 14 (.one 15 (.one 16 (.one 17 (.one 18 (.done))))))))) (.or 9 (.one 5 (.one 12 (.one 13 (.one 14 (.one 15 (.one 16 (.one 17 (.one 18 (.done))))))))) (.done))) (.done)))) (.or 9 (.or 5 (.or 7 (.one 11 (.one 12 (.one 13 (.one 14 (.one 15 (.one 16 (.one 17 (.one 18 (.done))))))))) (.or 11 (.one 7 (.one 12 (.one 13 (.one 14 (.one 15 (.one 16 (.one 17 (.one 18 (.done))))))))) (.done))) (.or 7 (.or 5 (.one 11 (.one 12 (.one 13 (.one 14 (.one 15 (.one 16 (.one 17 (.one 18 (.done))))))))) (.or 11 (.one 5 (.one 12 (.one 13 (.one 14 (.one 15 (.one 16 (.one 17 (.one 18 (.done))))))))) (.done))) (.or 11 (.or 5 (.one 7 (.one 12 (.one 13 (.one 14 (.one 15 (.one 16 (.one 17 (.one 18 (.done))))))))) (.or 7 (.one 5 (.one 12 (.one 13 (.one 14 (.one 15 (.one 16 (.one 17 (.one 18 (.done))))))))) (.done))) (.done)))) (.or 11 (.or 5 (.or 7 (.one 9 (.one 12 (.one 13 (.one 14 (.one 15 (.one 16 (.one 17 (.one 18 (.done))))))))) (.or 9 (.one 7 (.one 12 (.one 13 (.one 14 (.one 15 (.one 16 (.one 17 (.one 18 (.done))))))))) (.done))) (.or 7 (.or 5 (.one 9 (.one 12 (.one 13 (.one 14 (.one 15 (.one 16 (.one 17 (.one 18 (.done))))))))) (.or 9 (.one 5 (.one 12 (.one 13 (.one 14 (.one 15 (.one 16 (.one 17 (.one 18 (.done))))))))) (.done))) (.or 9 (.or 5 (.one 7 (.one 12 (.one 13 (.one 14 (.one 15 (.one 16 (.one 17 (.one 18 (.done))))))))) (.or 7 (.one 5 (.one 12 (.one 13 (.one 14 (.one 15 (.one 16 (.one 17 (.one 18 (.done))))))))) (.done))) (.done)))) (.done))))))))))))⟩]
def Jp (Γ:Env) (f:Nat):Prop:=∀ (l:List (List UInt8)) (e:QI) (st:List Qs) (hl:l.length < 2 ^ 28) (hk:st.length < 2 ^ 60) (hs:∀ x∈st,x.Sm),EvD Γ f [.sl 1 (l.map V.str)] (drC e st) (V.bool (abr st l).1) (drC { e with idents:=(abr st l).2 } st)
attribute [local go_sem] drI Yd in
theorem jQ {Γ:Env} {f:Nat} (h:Has Γ.P f 52 Yc.1.1.ac Yc.1.2) (z0:Uw Γ 152):Jp Γ f:=by
 intro l e st hl hk hs
 refine QT h zsi zcl zc3 zc3 fun C hC hm=>?_
 subst hC
 simp only [Yc,qd,DC.ac]
 have hlm:(l.map V.str).length = l.length:=zh _
 generalize hG:xQ st l [] = G
 have hcv:∀ (o:Nat→Option Ob) (n m:Nat) (acc:List Qy),m = acc.length→o n = some (.buf true 4 (acc.map Qy.v))→n ∉ [0]→Qz o [0] none (drI e st (.hd n 0 m)) (drI e st (.sl 4 (acc.map Qy.v))):=fun o n m acc hm h hn=>anU (by subst hm;have:=yF h hn;rwa [zh] at this)
 simp only [drC,drI] at hcv ⊢
 (have zx:=hlm);refine zgo ?_;repeat' first|exact zt|apply zan|intro hc
 refine Ug 0 5 4 rfl rfl ?_
 refine QA (ι:=Nat×List Qy) (fun q=>q.1≤l.length∧xQ st (l.drop q.1) q.2 = G∧q.2.length = q.1) (fun q=>Yd [(0,.ptr 0 0),(1,.sl 1 (l.map V.str)),(13,.sl 1 (l.map V.str)),(14,V.int l.length),(15,V.int q.1)] [(0,.box true (drI e st (.hd 1 0 q.2.length))),(1,.buf true 4 (q.2.map Qy.v))] 2) (fun q=>l.length - q.1) (0,[]) ⟨zu _,hG,rfl⟩ (Qo [(1,9001)]) (JZ [(1,9001)] (by simp only [go_sem,zwl,drI]<;>exact zcc) (by simp only [go_sem,zwl,drI]<;>exact zcc) (by simp [Qo]) (by simp;omega) (by omega)) fun q hq K' hL=>?_
 obtain ⟨k,acc⟩:=q
 obtain ⟨hk,hinv,hal⟩:=hq
 simp only at hk hinv hal
 rcases hd:l.drop k with _|⟨s,r⟩
 ·have hkl:=Qj hd
  have e1:decide ((k:Int) < ((l.length:Nat):Int)) = false:=by simp;omega
  rw [hd,xQ] at hinv
  subst hinv
  have hv:abr st l = (decide ((l.length:Int)≤4),acc):=by rw [abr,hG,zA]
  rw [hv]
  (have zx:=za e1 hlm);refine zgo ?_;repeat' first|exact zt|apply zan|intro hc
  all_goals exact Yf _ rfl rfl (hcv _ 1 _ _ rfl rfl (by decide)) rfl
 ·obtain ⟨hk',hget,hr⟩:=Qf hd
  have hw:=Qc (k:=k) (by omega)
  have e1:decide ((k:Int) < ((l.length:Nat):Int)) = true:=by simp;omega
  rw [hd,xQ] at hinv
  have hf:=(z0 st s (by omega) hs).b
  rcases hq:y5 st s with _|x
  ·rw [hq] at hf hinv
   subst hinv
   simp only [abv,Qs.v,Qs.cells] at hf
   have hv:abr st l = (false,acc):=by rw [abr,hG,zB]
   rw [hv]
   (have zx:=za e1 (za hw (za hlm hget)));refine zgo ?_;repeat' first|exact zt|apply zan|intro hc
   all_goals exact Yf _ rfl rfl (hcv _ 1 _ _ rfl rfl (by decide)) rfl
  ·rw [hq] at hf hinv
   simp only [abv,Qs.v,Qs.cells] at hf
   have hap:acc.map Qy.v++[V.agg [V.int x.kalg,V.int x.kbits,V.int x.kid,.sl 15 (x.chain.map Qi.v)]] = (acc++[aa5 x]).map Qy.v:=by rw [zD];rfl
   have hta:List.take acc.length (acc.map Qy.v) = acc.map Qy.v:=zb (by simp)
   have hla:acc.length + 1 = (acc++[aa5 x]).length:=by simp
   (have zx:=za e1 (za hw (za hlm (za hget (za hta (za hap hla))))));refine zgo ?_;repeat' first|exact zt|apply zan|intro hc
   all_goals first|exact hL _ (k + 1,acc++[aa5 x]) (Qo [(1,32002)]) ⟨by simp only;omega,by rw [hr];exact hinv,by simp;omega⟩ (by simp only;omega) (JZ [(1,32002)] (by simp only [go_sem,zwl,drI]<;>exact zcc) (by simp only [go_sem,zwl,drI];first|exact Ud _|exact ⟨trivial,Ud _⟩|(repeat' (first|rfl|apply za|omega|exact fun h=>h|exact Exists.intro _ rfl))) (by simp [Qo]) (by simp;omega) (by omega))
def aac:List UInt8→List UInt8→List (List UInt8)
 | [],cur=>if cur = [] then [] else [cur]
 | c :: r,cur=>if c = 32 then (if cur = [] then aac r [] else cur :: aac r []) else aac r (cur++[c])
def J7 (s:List UInt8):List (List UInt8):=aac s []
theorem afD:∀ (s cur:List UInt8),(aac s cur).length≤s.length + 1
 | [],cur=>by unfold aac;split<;>simp
 | c :: r,cur=>by
   rw [aac]
   have h1:=afD r []
   have h2:=afD r (cur++[c])
   split
   ·split<;>simp only [List.length_cons]<;>omega
   ·simp only [List.length_cons];omega
theorem abW:∀ (s cur w:List UInt8),w∈aac s cur→w.length≤s.length + cur.length
 | [],cur,w,h=>by
   unfold aac at h
   split at h
   ·simp at h
   ·simp only [zQ] at h;subst h;simp
 | c :: r,cur,w,h=>by
   rw [aac] at h
   split at h
   ·split at h
    ·have:=abW r [] w h;simp only [List.length_cons,List.length_nil] at this ⊢;omega
    ·rcases zn.1 h with rfl|h
     ·simp
     ·have:=abW r [] w h;simp only [List.length_cons,List.length_nil] at this ⊢;omega
   ·have:=abW r (cur++[c]) w h;simp only [zC,List.length_cons,List.length_nil] at this ⊢;omega
def Uj (x:JU):List (List UInt8):=if ao4 x.name = true then J7 x.val else [x.val]
def YP:=qd Proofs.Tryz.f110 []
def X2 (Γ:Env) (f:Nat):Prop:=Own Γ.P f∧∀ n:Int,EvN Γ f [.sc (.int .i32 n)] (V.bool (n == 32))
theorem xR {Γ:Env} {f:Nat} (h:Has Γ.P f 5 YP.1.1.ac YP.1.2) :X2 Γ f:=by
 refine ⟨h.own,fun n=>?_⟩
 refine Qb h (by simp) (by simp only [V.closed]) (by simp only [V.noSl]) fun C hC hm=>?_
 subst hC;simp only [YP,qd,DC.ac]
 exact zg
def Ui (Γ:Env) (f:Nat):Prop:=∀ (s:List UInt8) (g:Nat) (ho:Own Γ.P g) (hg:∀ n:Int,EvN Γ g [.sc (.int .i32 n)] (V.bool (n == 32))) (hs:s.length < 2 ^ 30),EvC Γ f [V.str s,.clo g []] (.sl 1 ((J7 s).map V.str))
def XM:=qd Proofs.Tryz.f40 []
def Vh (Γ:Env) (f:Nat):Prop:=∀ (x:JU) (hv:x.val.length < 2 ^ 30),EvC Γ f [x.v] (.sl 1 ((Uj x).map V.str))
theorem vB {Γ:Env} {f:Nat} (h:Has Γ.P f 13 XM.1.1.ac XM.1.2) (z0:Wz Γ 108) (z1:Ui Γ 109) (z2:X2 Γ 110):Vh Γ f:=by
 intro x hv
 refine Qn h zsi zcl fun C hC hm=>?_
 subst hC
 simp only [XM,qd,DC.ac]
 have hs:=(z0 x.name).b
 have hf:=(z1 x.val 110 z2.1 z2.2 hv).b
 simp only [JU.v,JU.cells]
 rcases hq:ao4 x.name with _|_
 ·rw [hq] at hs
  rw [Uj,if_neg (by rw [hq];decide)]
  refine zgo ?_;repeat' first|exact zt|apply zan|intro hc
  all_goals first|exact zr|(refine Qd _ rfl ?_;exact yF (xs:=[V.str x.val]) rfl (by simp))
 ·rw [hq] at hs
  rw [Uj,if_pos hq]
  exact zg
def VQ:=qd Proofs.Tryz.f44 []
def Km (Γ:Env) (f:Nat):Prop:=∀ (s:List UInt8) (hs:s.length < 2 ^ 30),EvW Γ f [V.str s] 1 ((J7 s).map V.str)
attribute [local go_sem] Yd in
theorem acw {Γ:Env} {f:Nat} (h:Has Γ.P f 35 VQ.1.1.ac VQ.1.2) :Km Γ f:=by
 intro s hs
 refine Vu h (by simp) (by first|exact je _|exact jc _) fun C hC hm=>?_
 subst hC
 simp only [VQ,qd,DC.ac]
 refine zgo ?_;repeat' first|exact zt|apply zan|intro hc
 refine QA (ι:=Nat×Nat×List (List UInt8)) (fun p=>p.1≤s.length + 1∧p.2.1≤p.1∧(p.1≤s.length→p.2.2++aac (s.drop p.1) ((s.take p.1).drop p.2.1) = J7 s)∧(p.1 = s.length + 1→p.2.2 = J7 s)∧p.2.2.length≤p.1)
  (fun p=>Yd [(0,V.str s),(3,.hd 0 0 p.2.2.length),(4,V.int p.2.1),(5,V.int p.1)] [(0,.buf true 1 (p.2.2.map V.str))] 1) (fun p=>s.length + 2 - p.1) (0,0,[]) ⟨by simp,by simp,fun _=>by simp [J7],fun h=>by simp at h,by simp⟩ (Qo [(0,1000)]) (zwg [(0,1000)]) fun p hp K' hL=>?_
 obtain ⟨k,fr,ws⟩:=p
 obtain ⟨h1,h2,h3,h4,h5⟩:=hp
 simp only at h1 h2 h3 h4 h5 hL ⊢
 by_cases hk:k≤s.length
 ·have e1:decide ((k:Int)≤s.length) = true:=by simp;omega
  have hw:=Qc (k:=k) (by omega)
  have hcur:List.take (k - fr) (List.drop fr s) = (s.take k).drop fr:=by rw [Ze]
  have h3:=h3 hk
  have hz:(s.take (k + 1)).drop (k + 1) = []:=zX (by simp;omega)
  have hln:((s.take k).drop fr).length = k - fr:=by simp;omega
  have hap:List.take ws.length (ws.map V.str)++[V.str ((s.take k).drop fr)] = (ws++[(s.take k).drop fr]).map V.str:=by
   rw [zb (by simp),zD];rfl
  have hl1:ws.length + 1 = (ws++[(s.take k).drop fr]).length:=by simp
  have hend:∀ (r:List UInt8) (hr:aac (s.drop k) ((s.take k).drop fr) = if (s.take k).drop fr = [] then aac r [] else (s.take k).drop fr :: aac r []),(fr < k→(ws++[(s.take k).drop fr])++aac r [] = J7 s)∧(¬ fr < k→ws++aac r [] = J7 s):=by
   intro r hr
   rw [hr] at h3
   refine ⟨fun h=>?_,fun h=>?_⟩
   ·rw [if_neg (fun e=>by have:=congrArg List.length e;rw [hln] at this;simp at this;omega)] at h3
    rw [zP];exact h3
   ·rw [if_pos (List.length_eq_zero_iff.1 (by rw [hln];omega))] at h3
    exact h3
  by_cases hkl:k = s.length
  ·have e2:((k:Int) == s.length) = true:=by simp;omega
   obtain ⟨g1,g2⟩:=hend [] (by rw [zX (by omega),aac,aac,if_pos rfl])
   simp only [aac,if_true,zU] at g1 g2
   by_cases hf:fr < k
   ·have e3:decide ((k:Int) > fr) = true:=by simp;omega
    (have zx:=za e1 (za e2 (za e3 (za hw (za hcur (za hap hl1))))));refine zgo ?_;repeat' first|exact zt|apply zan|intro hc
    all_goals exact hL _ (k + 1,k + 1,ws++[(s.take k).drop fr]) (Qo [(0,23001)]) ⟨by simp only;omega,by simp,fun h=>by simp only at h;omega,fun _=>g1 hf,by simp;omega⟩ (by simp only;omega) (zwg [(0,23001)])
   ·have e3:decide ((k:Int) > fr) = false:=by simp;omega
    (have zx:=za e1 (za e2 (za e3 (za hw (za hcur (za hap hl1))))));refine zgo ?_;repeat' first|exact zt|apply zan|intro hc
    all_goals exact hL _ (k + 1,k + 1,ws) (Qo [(0,0)]) ⟨by simp only;omega,by simp,fun h=>by simp only at h;omega,fun _=>g2 hf,by simp;omega⟩ (by simp only;omega) (zwg [(0,0)])
  ·have e2:((k:Int) == s.length) = false:=by simp;omega
   obtain ⟨x,hx⟩:∃ x,s[k]? = some x:=⟨s[k]'(by omega),ze (by omega)⟩
   have hd:s.drop k = x :: s.drop (k + 1):=by
    rw [zM (by omega)];congr 1
    rw [ze (by omega)] at hx;exact kK hx
   by_cases hxc:x = 32
   ·have e4:((x.toNat:Int) == 32) = true:=by subst hxc;rfl
    obtain ⟨g1,g2⟩:=hend (s.drop (k + 1)) (by rw [hd,aac,if_pos hxc])
    by_cases hf:fr < k
    ·have e3:decide ((k:Int) > fr) = true:=by simp;omega
     (have zx:=za e1 (za e2 (za e3 (za e4 (za hw (za hcur (za hap (za hl1 hx))))))));refine zgo ?_;repeat' first|exact zt|apply zan|intro hc
     all_goals exact hL _ (k + 1,k + 1,ws++[(s.take k).drop fr]) (Qo [(0,23001)]) ⟨by simp only;omega,by simp,fun h=>by simp only;rw [hz];exact g1 hf,fun h=>by simp only at h;omega,by simp;omega⟩ (by simp only;omega) (zwg [(0,23001)])
    ·have e3:decide ((k:Int) > fr) = false:=by simp;omega
     (have zx:=za e1 (za e2 (za e3 (za e4 (za hw (za hcur (za hap (za hl1 hx))))))));refine zgo ?_;repeat' first|exact zt|apply zan|intro hc
     all_goals exact hL _ (k + 1,k + 1,ws) (Qo [(0,0)]) ⟨by simp only;omega,by simp,fun h=>by simp only;rw [hz];exact g2 hf,fun h=>by simp only at h;omega,by simp;omega⟩ (by simp only;omega) (zwg [(0,0)])
   ·have e4:((x.toNat:Int) == 32) = false:=by
     have:x.toNat≠32:=fun h=>hxc (UInt8.toNat_inj.1 h)
     simp;omega
    have ht:(s.take (k + 1)).drop fr = (s.take k).drop fr++[x]:=by
     rw [zy,hx,km (by simp;omega)];rfl
    have h3:=h3
    rw [hd,aac,if_neg hxc,← ht] at h3
    (have zx:=za e1 (za e2 (za e4 (za hw hx))));refine zgo ?_;repeat' first|exact zt|apply zan|intro hc
    all_goals exact hL _ (k + 1,fr,ws) (Qo [(0,0)]) ⟨by simp only;omega,by simp only;omega,fun _=>h3,fun h=>by simp only at h;omega,by simp;omega⟩ (by simp only;omega) (zwg [(0,0)])
 ·have e1:decide ((k:Int)≤s.length) = false:=by simp;omega
  obtain rfl:ws = J7 s:=h4 (by omega)
  (have zx:=e1);refine zgo ?_;repeat' first|exact zt|apply zan|intro hc
  all_goals first|(refine aa9 _ _ rfl ?_ ?_<;>first|rfl|(simp;done))
def Y2:List (List UInt8):=[[108,101,97,115,116],[109,111,115,116],[115,117,105,116,101,115],[111,114,100,101,114],[107,101,121,115],[97,110,99,104,111,114,115],[104,97,115,104,101,115],[102,97,108,108,98,97,99,107]]
def UG:=qd Proofs.Tryz.f111 []
def qP (Γ:Env) (f:Nat):Prop:=EvW Γ f [] 1 (Y2.map V.str)
theorem adl {Γ:Env} {f:Nat} (h:Has Γ.P f 2 UG.1.1.ac UG.1.2) :qP Γ f:=by
 refine Vu h (by simp) (by first|exact je _|exact jc _) fun C hC hm=>?_
 subst hC
 simp only [UG,qd,DC.ac]
 refine zgo ?_;repeat' first|exact zt|apply zan|intro hc
 all_goals first|(refine aa9 _ _ rfl ?_ ?_<;>first|rfl|(simp [Y2];done))
def UH:=qd Proofs.Tryz.f43 []
def qQ (Γ:Env) (f:Nat):Prop:=∀ (s:List UInt8),EvN Γ f [V.str s] (V.bool (decide (s∈Y2)))
theorem adm {Γ:Env} {f:Nat} (h:Has Γ.P f 18 UH.1.1.ac UH.1.2) (z0:qP Γ 111):qQ Γ f:=by
 intro s
 refine Qb h zsi zcl zcl fun C hC hm=>?_
 subst hC
 simp only [UH,qd,DC.ac]
 have hwd:=z0
 have hlw:(Y2.map V.str).length = 8:=rfl
 refine zgo ?_;repeat' first|exact zt|apply zan|intro hc
 refine Qp (ι:=Nat) (fun k=>k≤8∧s ∉ Y2.take k) (fun k=>[(4,V.int k)]) (fun k=>8 - k) 0 (by omega) ⟨by omega,by simp⟩ zol zlt zet fun k hk K' hL=>?_
 obtain ⟨hk,hinv⟩:=hk
 simp only [ovT,Je,Nat.reduceEqDiff,reduceIte]
 by_cases h8:k = 8
 ·subst h8
  rw [zm (show ¬ s∈Y2 from hinv)]
  have e1:decide (((8:Nat):Int) < ((8:Nat):Int)) = false:=by decide
  (have zx:=za hlw e1);exact zg
 ·have hw:=Qc (k:=k) (by omega)
  have e1:decide ((k:Int) < ((8:Nat):Int)) = true:=by simp;omega
  obtain ⟨y,hy⟩:∃ y,Y2[k]? = some y:=⟨_,ze (by show k < 8;omega)⟩
  have ht:Y2.take (k + 1) = Y2.take k++[y]:=by rw [zy,hy];rfl
  rcases hq:y == s with _|_
  ·have hno:s ∉ Y2.take (k + 1):=by
    rw [ht];intro h
    rcases zW.1 h with h|h
    ·exact hinv h
    ·simp at h;subst h;simp at hq
   (have zx:=za hlw (za e1 (za hw (za hq hy))));refine zgo ?_;repeat' first|exact zt|apply zan|intro hc
   all_goals exact hL _ (k + 1) zet ⟨by omega,hno⟩ (by omega) zoe
  ·rw [zl (by rw [← eq_of_beq hq];exact zk hy)]
   (have zx:=za hlw (za e1 (za hw (za hq hy))));exact zg
end Av
end
