/- Functions that are lent a buffer of their caller's and answer the slice that takes its place (as append does), or the same one. -/
import Derived.Test.YtphclkkggijicaaGreatDoorB20
import Derived.Test.YtphclkkggijicaaGreatDoorB18
import Derived.Test.YtphclkkggijicaaGreatDoorB12
import Derived.Test.YtphclkkggijicaaGreatDoorB24
set_option linter.unusedVariables false
set_option linter.unusedSimpArgs false
noncomputable section
set_option maxRecDepth 10000
set_option maxHeartbeats 4000000
namespace Av
open Go
attribute [local irreducible] AWp W7 Kx jy awS awC vE awQ aay QP W6 vu awR Vn awB okR jx ris
section
variable {α:Type}
def gK (lt:α→α→Bool) (out:List α) (x:α):Nat→Nat
 | 0=>0
 | k + 1=>if (match out[k]? with|some y=>lt x y|none=>false) = true then gK lt out x k else k + 1
theorem ap8 (lt:α→α→Bool) (out:List α) (x:α):∀ k,gK lt out x k≤k
 | 0=>zi _
 | k + 1=>by
   rw [gK]
   by_cases h:(match out[k]? with|some y=>lt x y|none=>false) = true
   ·rw [if_pos h];exact Nat.le_succ_of_le (ap8 lt out x k)
   ·rw [if_neg h];exact zi _
def ajN (lt:α→α→Bool) (out:List α) (x:α):List α:=out.take (gK lt out x out.length)++[x]++out.drop (gK lt out x out.length)
def adN (lt:α→α→Bool) (l:List α):List α:=l.foldl (ajN lt) []
theorem aoj (lt:α→α→Bool) (out:List α) (x:α):(ajN lt out x).length = out.length + 1:=by
 have:=ap8 lt out x out.length
 simp [ajN];omega
theorem ahf (lt:α→α→Bool):∀ (l out:List α),(l.foldl (ajN lt) out).length = out.length + l.length
 | [],out=>by simp
 | x :: r,out=>by rw [List.foldl_cons,ahf lt r,aoj];simp;omega
theorem ahh (lt:α→α→Bool) (l:List α):(adN lt l).length = l.length:=by rw [adN,ahf];simp
theorem aoi {lt:α→α→Bool} {out:List α} {x y:α}:y∈ajN lt out x↔y = x∨y∈out:=by
 have:y∈out↔y∈out.take (gK lt out x out.length)∨y∈out.drop (gK lt out x out.length):=by
  rw [← zX,zR]
 simp only [ajN,zX,zO,this]
 constructor
 ·rintro ((h|h)|h)
  ·exact .inr (.inl h)
  ·exact .inl h
  ·exact .inr (.inr h)
 ·rintro (h|h|h)
  ·exact .inl (.inr h)
  ·exact .inl (.inl h)
  ·exact .inr h
theorem ahe {lt:α→α→Bool} {y:α}:∀ (l out:List α),y∈l.foldl (ajN lt) out↔y∈out∨y∈l
 | [],out=>by simp
 | x :: r,out=>by
   rw [List.foldl_cons,ahe r,aoi,zp]
   constructor
   ·rintro ((h|h)|h)
    ·exact .inr (.inl h)
    ·exact .inl h
    ·exact .inr (.inr h)
   ·rintro (h|h|h)
    ·exact .inl (.inr h)
    ·exact .inl (.inl h)
    ·exact .inr h
theorem amG {lt:α→α→Bool} {y:α} {l:List α}:y∈adN lt l↔y∈l:=by rw [adN,ahe];simp
theorem amI {lt:α→α→Bool} {out:List α} {x:α}:(ajN lt out x).Perm (x :: out):=by
 have h:(out.take (gK lt out x out.length)++out.drop (gK lt out x out.length)).Perm out:=by rw [zR]
 rw [ajN,zW,List.singleton_append]
 exact Za.trans (h.cons x)
theorem aeO {lt:α→α→Bool}:∀ (l out:List α),(l.foldl (ajN lt) out).Perm (l++out)
 | [],out=>by simp
 | x :: r,out=>by
   rw [List.foldl_cons,List.cons_append]
   exact ((aeO r (ajN lt out x)).trans (List.Perm.append_left r amI)).trans Za
theorem wm {lt:α→α→Bool} {l:List α}:(adN lt l).Perm l:=by have:=aeO (lt:=lt) l [];rwa [zY] at this
def Ord (lt:α→α→Bool) (l:List α):Prop:=l.Pairwise fun x y=>lt y x = false
theorem amH {lt:α→α→Bool} {out:List α} {x:α}:∀ k,k≤out.length→(∀ j,gK lt out x k≤j→j < k→∀ y,out[j]? = some y→lt x y = true)∧(0 < gK lt out x k→∀ y,out[gK lt out x k - 1]? = some y→lt x y = false)
 | 0,_=>⟨fun j h1 h2=>by omega,fun h=>by simp [gK] at h⟩
 | k + 1,hk=>by
   obtain ⟨i1,i2⟩:=amH (lt:=lt) (out:=out) (x:=x) k (by omega)
   have hy:out[k]? = some out[k]:=zf (by omega)
   simp only [gK,hy]
   split
   ·rename_i h
    refine ⟨fun j h1 h2 y e=>?_,i2⟩
    by_cases hj:j = k
    ·subst hj;rw [hy] at e;cases e;exact h
    ·exact i1 j h1 (by omega) y e
   ·rename_i h
    refine ⟨fun j h1 h2=>by omega,fun _ y e=>?_⟩
    rw [Zg,hy] at e;cases e
    simpa using h
theorem aoh {lt:α→α→Bool} (htr:∀ x y z,lt y x = false→lt z y = false→lt z x = false) (has:∀ x y,lt x y = true→lt y x = false) {out:List α} {x:α} (h:Ord lt out):Ord lt (ajN lt out x):=by
 obtain ⟨h1,h2⟩:=amH (lt:=lt) (out:=out) (x:=x) out.length (zi _)
 have hle:=ap8 lt out x out.length
 unfold Ord ajN at *
 generalize gK lt out x out.length = k at *
 have hto:(out.take k).Pairwise fun x y=>lt y x = false:=h.sublist (List.take_sublist _ _)
 have hdr:(out.drop k).Pairwise fun x y=>lt y x = false:=h.sublist (List.drop_sublist _ _)
 have hcr:∀ a∈out.take k,∀ b∈out.drop k,lt b a = false:=by
  have:=h
  rw [← zR k out,List.pairwise_append] at this
  exact this.2.2
 have hx1:∀ a∈out.take k,lt x a = false:=by
  intro a ha
  rcases Zf k with hk|hk
  ·subst hk;simp at ha
  ·have hlast:out[k - 1]? = some out[k - 1]:=zf (by omega)
   have hxl:=h2 hk _ hlast
   obtain ⟨i,hi,rfl⟩:=kz ha
   simp only [zM] at hi
   rw [List.getElem_take]
   by_cases e:i = k - 1
   ·subst e;exact hxl
   ·have:=(List.pairwise_iff_getElem.1 h) i (k - 1) (by omega) (by omega) (by omega)
    exact htr _ _ _ this hxl
 have hx2:∀ b∈out.drop k,lt b x = false:=by
  intro b hb
  obtain ⟨i,hi,rfl⟩:=kz hb
  rw [List.getElem_drop]
  simp only [kO] at hi
  exact has _ _ (h1 (k + i) (by omega) (by omega) _ (zf (by omega)))
 rw [zW,List.singleton_append,List.pairwise_append]
 refine ⟨hto,Zh.2 ⟨hx2,hdr⟩,fun a ha b hb=>?_⟩
 rcases zp.1 hb with rfl|hb
 ·exact hx1 a ha
 ·exact hcr a ha b hb
theorem ahd {lt:α→α→Bool} (htr:∀ x y z,lt y x = false→lt z y = false→lt z x = false) (has:∀ x y,lt x y = true→lt y x = false):∀ (l out:List α),Ord lt out→Ord lt (l.foldl (ajN lt) out)
 | [],_,h=>h
 | x :: r,out,h=>ahd htr has r _ (aoh htr has h)
theorem ahg {lt:α→α→Bool} (htr:∀ x y z,lt y x = false→lt z y = false→lt z x = false) (has:∀ x y,lt x y = true→lt y x = false) (l:List α):Ord lt (adN lt l):=ahd htr has l [] List.Pairwise.nil
end
end Av
end
section
namespace Av
open Go
section
variable {Γ:Env} {A W:Nat→Bool} {b:Nat} {r:List AO} {s:St} {d:Option Nat} {f:FuncId} {acts args:List V} {okf:Option (List Nat)→Prop} {J K:St→Prop} {a n sx:Nat} {xs ys:List V} {x:V}
end
theorem asH {x y n:Nat} {o:Nat→Option Ob}:j3 (some [x,y]) [] o n = if n = x then (o n).map Ob.frz else if n = y then (o n).map Ob.frz else o n:=by
 simp only [j3,zp,zy,or_false,not_false_eq_true,and_true]
 by_cases h1:n = x<;>by_cases h2:n = y<;>simp [h1,h2]
theorem asG {x y:Nat}:(x∈[x,y]) = True:=by simp
theorem asF {x y:Nat}:(y∈[x,y]) = True:=by simp
theorem asR {n:Int}:([V.sc (Value.int IntKind.i64 n)].all (UZ IntKind.i64) = true) = True:=by simp [UZ]
attribute [go_sem] asH asG asF asR
end Av
end
noncomputable section
set_option maxRecDepth 10000
set_option maxHeartbeats 4000000
namespace Av
open Go
attribute [local irreducible] AWp W7 Kx jy awS awC vE awQ aay QP W6 vu awR Vn awB okR jx ris
structure aoY where
 src:Int
 host:List UInt8
 mach:Int
 day:Int
 conf:Int
 kind:Int
 subj:List UInt8
 alg:Int
 bits:Int
 num:Int
 text:List UInt8
 deriving DecidableEq
def aoY.cells (f:aoY):List V:=[V.int f.src,V.str f.host,V.int f.mach,V.int f.day,V.int f.conf,V.int f.kind,V.str f.subj,V.int f.alg,V.int f.bits,V.int f.num,V.str f.text]
def aoY.v (f:aoY):V:=.agg f.cells
abbrev V.u64 (n:Int):V:=.sc (.int .u64 n)
def WZ (Γ:Env) (f:Nat):Prop:=∀ (xs:List Int) (hx:xs.length < 2 ^ 40),EvL Γ f [] 1 (xs.map V.int) (.tup []) (((adN (fun x y:Int=>decide (x < y)) xs).map V.int))
theorem Yp {rs:List Uc} {res:V} {s:St} {cs cs2:List V} (vs:List V) (h:vX s rs = some vs) (ho:s.o 0 = some (.box true cs)) (h2:QE s.o [0] none cs cs2) (hc:conv s.o [0] none (aih vs) res):wu 1 rs res [.box true cs2] s :=
 Wr rs vs _ h ⟨[0],none,hc,⟨⟨_,ho,fun h=>h,h2⟩,trivial⟩,by simp,rfl⟩
theorem yY {o:Nat→Option Ob} {br:List Nat} {n sz:Nat} {xs:List V} (h:o n = some (.buf true sz xs)) (hn:n ∉ br):conv o br none (.hd n 0 xs.length) (.sl sz xs):=by
 rw [aqk]
 exact ⟨trivial,hn,.inl ⟨true,_,h,by rw [ku,zb (zi _)]⟩⟩
theorem qS {α:Type} {f:α→V} {l:List α} {o:Nat→Option Ob} {br:List Nat} {n sz:Nat} (h:o n = some (.buf true sz (l.map f))) (hn:n ∉ br):conv o br none (.hd n 0 l.length) (.sl sz (l.map f)):=by
 have:=yY h hn;rwa [zh] at this
def ar0 (s:St) (br:List Nat):List (Nat×V)→Prop
 | []=>True
 | p :: r=>conv s.o br none (s.t p.1) p.2∧ar0 s br r
theorem ajm {s:St} {br:List Nat}:∀ {ts:List (Nat×V)},ar0 s br ts→∀ p∈ts,conv s.o br none (s.t p.1) p.2
 | [],_,p,hp=>by cases hp
 | q :: r,h,p,hp=>by
   rcases zp.1 hp with rfl|hp
   ·exact h.1
   ·exact ajm h.2 p hp
theorem xI {m:Nat} {s:St} {ts:List (Nat×V)} {os:List Ob} (br:List Nat) (hf:br.take m = List.range m) (ho:anM s.o br none br os)
  (ht:ar0 s br ts:=by repeat' (first|exact trivial|(show conv _ _ _ (.ptr _ _) (.ptr _ _);simp [conv];done)|exact Ql _ _ _ (V.int _) trivial|exact Ql _ _ _ (V.bool _) trivial|exact Ql _ _ _ (.sl _ _) trivial|exact Ql _ _ _ (V.str _) trivial|(show conv _ _ _ (.hd _ 0 _) (.hd _ 0 _);simp [conv];done)|exact qS rfl (by decide)|refine za ?_ ?_)) (hn:br.Nodup:=by decide):Cl m s (stL ts os):=ai4 br none (ajm ht) ho hn hf
def X7:=qd Proofs.Tryz.f103 []
def VK (Γ:Env) (f:Nat):Prop:=∀ (s:List UInt8) (hs:s.length < 2 ^ 30),EvN Γ f [V.str s] (.tup [V.int (XI s),V.bool (abg s && adE (XI s))])
theorem aak {Γ:Env} {f:Nat} (h:Has Γ.P f 17 X7.1.1.ac X7.1.2) (z0:Y7 Γ 150) (z1:J1 Γ 55):VK Γ f:=by
 intro s hs
 refine Qb h zsi (by simp only [V.closed,Qa,V.noSl,UJ,and_self]) (by simp only [V.closed,Qa,V.noSl,UJ,and_self]) fun C hC hm=>?_
 subst hC
 simp only [X7,qd,DC.ac]
 have hd:=(z0 s hs).b
 have hk:=(z1 (XI s)).b
 rcases hq:abg s with _|_
 ·rw [hq] at hd
  exact zg
 ·rw [hq] at hd
  exact zg
def YH:=qd Proofs.Tryz.f105 []
def XL (Γ:Env) (f:Nat):Prop:=∀ (s:List UInt8),EvN Γ f [V.str s] (.tup [V.int (J2 s 0 Q1),V.bool (wx (J2 s 0 Q1))])
theorem xD {Γ:Env} {f:Nat} (h:Has Γ.P f 10 YH.1.1.ac YH.1.2) (z0:VO Γ 154) (z1:WH Γ 56):XL Γ f:=by
 intro s
 refine Qb h zsi (by simp only [V.closed,Qa,V.noSl,UJ,and_self]) (by simp only [V.closed,Qa,V.noSl,UJ,and_self]) fun C hC hm=>?_
 subst hC
 simp only [YH,qd,DC.ac]
 have hf:=(z0 s).b
 have hh:=(z1 (J2 s 0 Q1)).b
 exact zg
def nuC (an:Bool) (e:QM) (st:List Qv) (v:V):List V:=match an with
 | true=>[V.str e.name,V.int e.least,V.int e.most,.sl 1 (e.suites.map V.int),V.bool e.own,.sl 4 (e.idents.map QO.v),v,.sl 1 (e.hashes.map V.int),V.bool e.fall,.sl 6 (st.map Qv.v)]
 | false=>[V.str e.name,V.int e.least,V.int e.most,.sl 1 (e.suites.map V.int),V.bool e.own,.sl 4 (e.idents.map QO.v),.sl 1 (e.anchors.map V.int),v,V.bool e.fall,.sl 6 (st.map Qv.v)]
def nuK:Bool→Nat|true=>6|false=>7
theorem ap0 {o:Nat→Option Ob} {br:List Nat} {B:Option (List Nat)} {an:Bool} {e:QM} {st:List Qv} {v u:V} (h:conv o br B v u):QE o br B (nuC an e st v) (nuC an e st u):=by
 cases an<;>simp only [nuC,QE]<;>simp [conv,h,V.int,V.str,V.bool]
@[simp] theorem amh (an:Bool) (e:QM) (st:List Qv) (t:Nat) (l:List V):Qa (nuC an e st (.sl t l)):=by
 cases an<;>simp [nuC,V.closed,Qa]
def vC (of:List UInt8→Int×Bool):List (List UInt8)→List Int→Bool×List Int
 | [],acc=>(true,acc)
 | s :: r,acc=>if (of s).2 = true∧(of s).1 ∉ acc then vC of r (acc++[(of s).1]) else (false,acc)
def af9 (s:List UInt8):Int×Bool:=(XI s,abg s && adE (XI s))
def aig (s:List UInt8):Int×Bool:=(J2 s 0 Q1,wx (J2 s 0 Q1))
def jP (l:List Int):List Int:=adN (fun x y:Int=>decide (x < y)) l
def vD (of:List UInt8→Int×Bool) (most:Int) (l:List (List UInt8)):Bool×List Int:=if (vC of l []).1 = true then (decide ((l.length:Int)≤most),jP (vC of l []).2) else (false,(vC of l []).2)
def nuS (an:Bool) (e:QM) (st:List Qv) (l:List (List UInt8)) (most:Int) (g:Nat) (q:Nat×List Int):St:=Yo [(0,.ptr 0 (nuK an)),(1,.sl 1 (l.map V.str)),(2,V.int most),(3,.clo g []),(15,.sl 1 (l.map V.str)),(16,V.int l.length),(17,V.int q.1)] [(0,.box true (nuC an e st (.hd 1 0 q.2.length))),(1,.buf true 1 (q.2.map V.int))] 2
def Xr:=qd Proofs.Tryz.f102 []
def Xa (Γ:Env) (f:Nat):Prop:=∀ (l:List (List UInt8)) (e:QM) (st:List Qv) (an:Bool) (most:Int) (g:Nat) (of:List UInt8→Int×Bool) (hg:∀ s∈l,EvN Γ g [V.str s] (.tup [V.int (of s).1,V.bool (of s).2])) (hl:l.length < 2 ^ 34),EvF Γ f (nuK an) [.sl 1 (l.map V.str),V.int most,.clo g []] (drC e st) (V.bool (vD of most l).1) (nuC an e st (.sl 1 ((vD of most l).2.map V.int)))
attribute [local go_sem] Yo nuC nuK nuS in
theorem vg {Γ:Env} {f:Nat} (h:Has Γ.P f 53 Xr.1.1.ac Xr.1.2) (z0:Qw Γ 117) (z1:WZ Γ 153):Xa Γ f:=by
 intro l e st an most g of hg hl
 refine vm h (by simp) (by first|exact JW _ _|exact amh _ _ _ _ _|simp only [V.closed,Qa,and_self]) (by first|exact PDraft.cells_closed _|exact Qh _ _|simp only [V.closed,Qa,and_self,and_true,true_and]|(simp [V.closed,Qa];done)) (by first|exact PDraft.cells_closed _|exact Qh _ _|simp only [V.closed,Qa,and_self,and_true,true_and]|(simp [V.closed,Qa];done)) fun C hC hm=>?_
 subst hC
 simp only [Xr,qd,DC.ac]
 have hlm:(l.map V.str).length = l.length:=zh _
 generalize hG:vC of l [] = G
 have hcv:∀ (o:Nat→Option Ob) (n m:Nat) (acc:List Int),m = acc.length→o n = some (.buf true 1 (acc.map V.int))→n ∉ [0]→QE o [0] none (nuC an e st (.hd n 0 m)) (nuC an e st (.sl 1 (acc.map V.int))):=fun o n m acc hm h hn=>ap0 (by subst hm;have:=yY h hn;rwa [zh] at this)
 rcases hb:an with _|_
 all_goals
  simp only [nuC,nuK,drC]
  (have zx:=hlm);refine zgo ?_;repeat' first|exact zt|apply zan|intro hc
  first|refine UE 0 7 1 rfl rfl ?_|refine UE 0 6 1 rfl rfl ?_
  refine Qz (ι:=Nat×List Int) (fun q=>q.1≤l.length∧vC of (l.drop q.1) q.2 = G∧q.2.length = q.1) (fun q=>nuS an e st l most g q) (fun q=>l.length - q.1) (0,[]) ⟨zw _,hG,rfl⟩ (Qp [(1,7001)]) (JS [(1,7001)] (by simp only [go_sem,zwl,nuS,nuC,nuK,hb]<;>exact zcc) (by simp only [go_sem,zwl,nuS,nuC,nuK,hb]<;>exact zcc) (by simp [Qp]) (by simp;omega) (by omega)) fun q hq K' hL=>?_
  obtain ⟨k,acc⟩:=q
  obtain ⟨hk,hinv,hal⟩:=hq
  simp only at hk hinv hal
  rw [hb] at hcv
  rcases hd:l.drop k with _|⟨s,r⟩
  ·have hkl:=Qj hd
   have e1:decide ((k:Int) < ((l.length:Nat):Int)) = false:=by simp;omega
   rw [hd,vC] at hinv
   subst hinv
   have hso:=z1 acc (by omega)
   have hln:acc.length = (adN (fun x y:Int=>decide (x < y)) acc).length:=(ahh _ _).symm
   have hv:vD of most l = (decide ((l.length:Int)≤most),jP acc):=by rw [vD,hG,if_pos rfl]
   rw [hv]
   simp only [nuC] at hcv
   (have zx:=za hb (za e1 hlm));refine zgo ?_;repeat' first|exact zt|apply zan|intro hc
   all_goals exact Yp _ rfl rfl (hcv _ 1 _ _ hln rfl (by decide)) rfl
  ·obtain ⟨hk',hget,hr⟩:=Qe hd
   have hw:=Qd (k:=k) (by omega)
   have e1:decide ((k:Int) < ((l.length:Nat):Int)) = true:=by simp;omega
   rw [hd,vC] at hinv
   have hof:=(hg s (zj hget)).b
   have hct:=(z0 acc (of s).1 (by omega)).b
   have hfi:=Kz (of s).1 acc 0
   have hta:List.take acc.length (acc.map V.int) = acc.map V.int:=zb (by simp)
   generalize of s = p at *
   obtain ⟨n,ok⟩:=p
   simp only at hof hct hinv hfi
   rcases ok with _|_
   ·rw [if_neg (fun h=>by simp at h)] at hinv
    subst hinv
    have hv:vD of most l = (false,acc):=by rw [vD,hG,if_neg (by simp)]
    rw [hv]
    simp only [nuC] at hcv
    (have zx:=za hb (za e1 (za hw (za hlm hget))));refine zgo ?_;repeat' first|exact zt|apply zan|intro hc
    all_goals exact Yp _ rfl rfl (hcv _ 1 _ _ rfl rfl (by decide)) rfl
   ·by_cases hin:n∈acc
    ·rw [zu (hfi.2 hin)] at hct
     rw [if_neg (fun h=>h.2 hin)] at hinv
     subst hinv
     have hv:vD of most l = (false,acc):=by rw [vD,hG,if_neg (by simp)]
     rw [hv]
     simp only [nuC] at hcv
     (have zx:=za hb (za e1 (za hw (za hlm (za hget hta)))));refine zgo ?_;repeat' first|exact zt|apply zan|intro hc
     all_goals exact Yp _ rfl rfl (hcv _ 1 _ _ rfl rfl (by decide)) rfl
    ·rw [zv (fun h=>hin (hfi.1 h))] at hct
     rw [if_pos ⟨rfl,hin⟩] at hinv
     have hap:acc.map V.int++[V.int n] = (acc++[n]).map V.int:=by rw [zG];rfl
     have hla:acc.length + 1 = (acc++[n]).length:=by simp
     (have zx:=za hb (za e1 (za hw (za hlm (za hget (za hta (za hap hla)))))));refine zgo ?_;repeat' first|exact zt|apply zan|intro hc
     all_goals exact hL _ (k + 1,acc++[n]) (Qp [(1,27002)]) ⟨by simp only;omega,by rw [hr];exact hinv,by simp;omega⟩ (by simp only;omega) (JS [(1,27002)] (by simp only [go_sem,zwl,nuS,nuC,nuK,hb]<;>exact zcc) (by simp only [go_sem,zwl,nuS,nuC,nuK,hb]<;>exact zcc) (by simp [Qp]) (by simp;omega) (by omega))
def JK:=qd Proofs.Tryz.f101 []
def Jg (Γ:Env) (f:Nat):Prop:=∀ (l:List (List UInt8)) (e:QM) (st:List Qv) (hs:∀ s∈l,s.length < 2 ^ 30) (hl:l.length < 2 ^ 34),EvH Γ f (.sl 1 (l.map V.str)) (drC e st) (V.bool (vD af9 16 l).1) (drC { e with anchors:=(vD af9 16 l).2 } st)
theorem KW {Γ:Env} {f:Nat} (h:Has Γ.P f 10 JK.1.1.ac JK.1.2) (z0:Xa Γ 102) (z1:VK Γ 103):Jg Γ f:=by
 intro l e st hs hl
 refine VV h (by simp) (by first|exact JW _ _|simp only [V.closed,Qa,and_self]) (by first|exact PDraft.cells_closed _|exact Qh _ _|simp only [V.closed,Qa,and_self,and_true,true_and]|(simp [V.closed,Qa];done)) (by first|exact PDraft.cells_closed _|exact Qh _ _|simp only [V.closed,Qa,and_self,and_true,true_and]|(simp [V.closed,Qa];done)) fun C hC hm=>?_
 subst hC
 simp only [JK,qd,DC.ac]
 have hv:=z0 l e st true 16 103 af9 (fun s h=>z1 s (hs s h)) hl
 simp only [nuC,nuK,drC] at hv ⊢
 refine zgo ?_;repeat' first|exact zt|apply zan|intro hc
 all_goals first|(refine aeR _ rfl rfl rfl (by first|simp only [V.closed,Qa,and_self,and_true,true_and]|(simp [V.closed,Qa];done)) ?_;simp only [go_sem];done)
def JJ:=qd Proofs.Tryz.f104 []
def Jf (Γ:Env) (f:Nat):Prop:=∀ (l:List (List UInt8)) (e:QM) (st:List Qv) (hl:l.length < 2 ^ 34),EvH Γ f (.sl 1 (l.map V.str)) (drC e st) (V.bool (vD aig 22 l).1) (drC { e with hashes:=(vD aig 22 l).2 } st)
theorem KV {Γ:Env} {f:Nat} (h:Has Γ.P f 10 JJ.1.1.ac JJ.1.2) (z0:Xa Γ 102) (z1:XL Γ 105):Jf Γ f:=by
 intro l e st hl
 refine VV h (by simp) (by first|exact JW _ _|simp only [V.closed,Qa,and_self]) (by first|exact PDraft.cells_closed _|exact Qh _ _|simp only [V.closed,Qa,and_self,and_true,true_and]|(simp [V.closed,Qa];done)) (by first|exact PDraft.cells_closed _|exact Qh _ _|simp only [V.closed,Qa,and_self,and_true,true_and]|(simp [V.closed,Qa];done)) fun C hC hm=>?_
 subst hC
 simp only [JJ,qd,DC.ac]
 have hv:=z0 l e st false 22 105 aig (fun s _=>z1 s) hl
 simp only [nuC,nuK,drC] at hv ⊢
 refine zgo ?_;repeat' first|exact zt|apply zan|intro hc
 all_goals first|(refine aeR _ rfl rfl rfl (by first|simp only [V.closed,Qa,and_self,and_true,true_and]|(simp [V.closed,Qa];done)) ?_;simp only [go_sem];done)
def abx (x:Qv):QO:=⟨x.kalg,x.kbits,x.kid,x.chain⟩
def ww (st:List Qv):List (List UInt8)→List QO→Bool×List QO
 | [],acc=>(true,acc)
 | s :: r,acc=>match xB st s with|some x=>ww st r (acc++[abx x])|none=>(false,acc)
def abR (st:List Qv) (l:List (List UInt8)):Bool×List QO:=((ww st l []).1 && decide ((l.length:Int)≤4),(ww st l []).2)
def drI (e:QM) (st:List Qv) (v:V):List V:=[V.str e.name,V.int e.least,V.int e.most,.sl 1 (e.suites.map V.int),V.bool e.own,v,.sl 1 (e.anchors.map V.int),.sl 1 (e.hashes.map V.int),V.bool e.fall,.sl 6 (st.map Qv.v)]
theorem aot {o:Nat→Option Ob} {br:List Nat} {B:Option (List Nat)} {e:QM} {st:List Qv} {v u:V} (h:conv o br B v u):QE o br B (drI e st v) (drI e st u):=by
 simp only [drI,QE];simp [conv,h,V.int,V.str,V.bool]
theorem UB:∀ l:List QO,UL (l.map QO.v)
 | []=>trivial
 | x :: r=>⟨by simp [QO.v,QO.cells,V.cells,Qa,V.closed],UB r⟩
def Yl:=qd Proofs.Tryz.f100 [⟨fun _=>false,[5,7,9,11],.one 0 (.one 1 (.one 2 (.one 3 (.one 4 (.one 6 (.one 8 (.one 10 (.or 5 (.or 7 (.or 9 (.one 11 (.one 12 (.one 13 (.one 14 (.one 15 (.one 16 (.one 17 (.one 18 (.done))))))))) (.or 11 (.one 9 (.one 12 (.one 13 (.one 14 (.one 15 (.one 16 (.one 17 (.one 18 (.done))))))))) (.done))) (.or 9 (.or 7 (.one 11 (.one 12 (.one 13 (.one 14 (.one 15 (.one 16 (.one 17 (.one 18 (.done))))))))) (.or 11 (.one 7 (.one 12 (.one 13 (.one 14 (.one 15 (.one 16 (.one 17 (.one 18 (.done))))))))) (.done))) (.or 11 (.or 7 (.one 9 (.one 12 (.one 13 (.one 14 (.one 15 (.one 16 (.one 17 (.one 18 (.done))))))))) (.or 9 (.one 7 (.one 12 (.one 13 (.one 14 (.one 15 (.one 16 (.one 17 (.one 18 (.done))))))))) (.done))) (.done)))) (.or 7 (.or 5 (.or 9 (.one 11 (.one 12 (.one 13 (.one 14 (.one 15 (.one 16 (.one 17 (.one 18 (.done))))))))) (.or 11 (.one 9 (.one 12 (.one 13 (.one 14 (.one 15 (.one 16 (.one 17 (.one 18 (.done))))))))) (.done))) (.or 9 (.or 5 (.one 11 (.one 12 (.one 13 (.one 14 (.one 15 (.one 16 (.one 17 (.one 18 (.done))))))))) (.or 11 (.one 5 (.one 12 (.one 13 (.one 14 (.one 15 (.one 16 (.one 17 (.one 18 (.done))))))))) (.done))) (.or 11 (.or 5 (.one 9 (.one 12 (.one 13 (.one 14 (.one 15 (.one 16 (.one 17 (.one 18 (.done))))))))) (.or 9 (.one 5 (.one 12 (.one 13 (.one 14 (.one 15 (.one 16 (.one 17 (.one 18 (.done))))))))) (.done))) (.done)))) (.or 9 (.or 5 (.or 7 (.one 11 (.one 12 (.one 13 (.one 14 (.one 15 (.one 16 (.one 17 (.one 18 (.done))))))))) (.or 11 (.one 7 (.one 12 (.one 13 (.one 14 (.one 15 (.one 16 (.one 17 (.one 18 (.done))))))))) (.done))) (.or 7 (.or 5 (.one 11 (.one 12 (.one 13 (.one 14 (.one 15 (.one 16 (.one 17 (.one 18 (.done))))))))) (.or 11 (.one 5 (.one 12 (.one 13 (.one 14 (.one 15 (.one 16 (.one 17 (.one 18 (.done))))))))) (.done))) (.or 11 (.or 5 (.one 7 (.one 12 (.one 13 (.one 14 (.one 15 (.one 16 (.one 17 (.one 18 (.done))))))))) (.or 7 (.one 5 (.one 12 (.one 13 (.one 14 (.one 15 (.one 16 (.one 17 (.one 18 (.done))))))))) (.done))) (.done)))) (.or 11 (.or 5 (.or 7 (.one 9 (.one 12 (.one 13 (.one 14 (.one 15 (.one 16 (.one 17 (.one 18 (.done))))))))) (.or 9 (.one 7 (.one 12 (.one 13 (.one 14 (.one 15 (.one 16 (.one 17 (.one 18 (.done))))))))) (.done))) (.or 7 (.or 5 (.one 9 (.one 12 (.one 13 (.one 14 (.one 15 (.one 16 (.one 17 (.one 18 (.done))))))))) (.or 9 (.one 5 (.one 12 (.one 13 (.one 14 (.one 15 (.one 16 (.one 17 (.one 18 (.done))))))))) (.done))) (.or 9 (.or 5 (.one 7 (.one 12 (.one 13 (.one 14 (.one 15 (.one 16 (.one 17 (.one 18 (.done))))))))) (.or 7 (.one 5 (.one 12 (.one 13 (.one 14 (.one 15 (.one 16 (.one 17 (.one 18 (.done))))))))) (.done))) (.done)))) (.done))))))))))))⟩]
def Jw (Γ:Env) (f:Nat):Prop:=∀ (l:List (List UInt8)) (e:QM) (st:List Qv) (hl:l.length < 2 ^ 28) (hk:st.length < 2 ^ 60) (hs:∀ x∈st,x.Sm),EvD Γ f [.sl 1 (l.map V.str)] (drC e st) (V.bool (abR st l).1) (drC { e with idents:=(abR st l).2 } st)
attribute [local go_sem] drI Yo in
theorem j8 {Γ:Env} {f:Nat} (h:Has Γ.P f 52 Yl.1.1.ac Yl.1.2) (z0:UT Γ 152):Jw Γ f:=by
 intro l e st hl hk hs
 refine Q5 h zsi zcl zc3 zc3 fun C hC hm=>?_
 subst hC
 simp only [Yl,qd,DC.ac]
 have hlm:(l.map V.str).length = l.length:=zh _
 generalize hG:ww st l [] = G
 have hcv:∀ (o:Nat→Option Ob) (n m:Nat) (acc:List QO),m = acc.length→o n = some (.buf true 4 (acc.map QO.v))→n ∉ [0]→QE o [0] none (drI e st (.hd n 0 m)) (drI e st (.sl 4 (acc.map QO.v))):=fun o n m acc hm h hn=>aot (by subst hm;have:=yY h hn;rwa [zh] at this)
 simp only [drC,drI] at hcv ⊢
 (have zx:=hlm);refine zgo ?_;repeat' first|exact zt|apply zan|intro hc
 refine UE 0 5 4 rfl rfl ?_
 refine Qz (ι:=Nat×List QO) (fun q=>q.1≤l.length∧ww st (l.drop q.1) q.2 = G∧q.2.length = q.1) (fun q=>Yo [(0,.ptr 0 0),(1,.sl 1 (l.map V.str)),(13,.sl 1 (l.map V.str)),(14,V.int l.length),(15,V.int q.1)] [(0,.box true (drI e st (.hd 1 0 q.2.length))),(1,.buf true 4 (q.2.map QO.v))] 2) (fun q=>l.length - q.1) (0,[]) ⟨zw _,hG,rfl⟩ (Qp [(1,9001)]) (JS [(1,9001)] (by simp only [go_sem,zwl,drI]<;>exact zcc) (by simp only [go_sem,zwl,drI]<;>exact zcc) (by simp [Qp]) (by simp;omega) (by omega)) fun q hq K' hL=>?_
 obtain ⟨k,acc⟩:=q
 obtain ⟨hk,hinv,hal⟩:=hq
 simp only at hk hinv hal
 rcases hd:l.drop k with _|⟨s,r⟩
 ·have hkl:=Qj hd
  have e1:decide ((k:Int) < ((l.length:Nat):Int)) = false:=by simp;omega
  rw [hd,ww] at hinv
  subst hinv
  have hv:abR st l = (decide ((l.length:Int)≤4),acc):=by rw [abR,hG,zC]
  rw [hv]
  (have zx:=za e1 hlm);refine zgo ?_;repeat' first|exact zt|apply zan|intro hc
  all_goals exact Yp _ rfl rfl (hcv _ 1 _ _ rfl rfl (by decide)) rfl
 ·obtain ⟨hk',hget,hr⟩:=Qe hd
  have hw:=Qd (k:=k) (by omega)
  have e1:decide ((k:Int) < ((l.length:Nat):Int)) = true:=by simp;omega
  rw [hd,ww] at hinv
  have hf:=(z0 st s (by omega) hs).b
  rcases hq:xB st s with _|x
  ·rw [hq] at hf hinv
   subst hinv
   simp only [abV,Qv.v,Qv.cells] at hf
   have hv:abR st l = (false,acc):=by rw [abR,hG,zD]
   rw [hv]
   (have zx:=za e1 (za hw (za hlm hget)));refine zgo ?_;repeat' first|exact zt|apply zan|intro hc
   all_goals exact Yp _ rfl rfl (hcv _ 1 _ _ rfl rfl (by decide)) rfl
  ·rw [hq] at hf hinv
   simp only [abV,Qv.v,Qv.cells] at hf
   have hap:acc.map QO.v++[V.agg [V.int x.kalg,V.int x.kbits,V.int x.kid,.sl 15 (x.chain.map Qk.v)]] = (acc++[abx x]).map QO.v:=by rw [zG];rfl
   have hta:List.take acc.length (acc.map QO.v) = acc.map QO.v:=zb (by simp)
   have hla:acc.length + 1 = (acc++[abx x]).length:=by simp
   (have zx:=za e1 (za hw (za hlm (za hget (za hta (za hap hla))))));refine zgo ?_;repeat' first|exact zt|apply zan|intro hc
   all_goals first|exact hL _ (k + 1,acc++[abx x]) (Qp [(1,32002)]) ⟨by simp only;omega,by rw [hr];exact hinv,by simp;omega⟩ (by simp only;omega) (JS [(1,32002)] (by simp only [go_sem,zwl,drI]<;>exact zcc) (by simp only [go_sem,zwl,drI];first|exact UB _|exact ⟨trivial,UB _⟩|(repeat' (first|rfl|apply za|omega|exact fun h=>h|exact Exists.intro _ rfl))) (by simp [Qp]) (by simp;omega) (by omega))
def ahM:List UInt8→List UInt8→List (List UInt8)
 | [],cur=>if cur = [] then [] else [cur]
 | c :: r,cur=>if c = 32 then (if cur = [] then ahM r [] else cur :: ahM r []) else ahM r (cur++[c])
def V0 (s:List UInt8):List (List UInt8):=ahM s []
theorem af5:∀ (s cur:List UInt8),(ahM s cur).length≤s.length + 1
 | [],cur=>by unfold ahM;split<;>simp
 | c :: r,cur=>by
   rw [ahM]
   have h1:=af5 r []
   have h2:=af5 r (cur++[c])
   split
   ·split<;>simp only [List.length_cons]<;>omega
   ·simp only [List.length_cons];omega
theorem aco:∀ (s cur w:List UInt8),w∈ahM s cur→w.length≤s.length + cur.length
 | [],cur,w,h=>by
   unfold ahM at h
   split at h
   ·simp at h
   ·simp only [zO] at h;subst h;simp
 | c :: r,cur,w,h=>by
   rw [ahM] at h
   split at h
   ·split at h
    ·have:=aco r [] w h;simp only [List.length_cons,List.length_nil] at this ⊢;omega
    ·rcases zp.1 h with rfl|h
     ·simp
     ·have:=aco r [] w h;simp only [List.length_cons,List.length_nil] at this ⊢;omega
   ·have:=aco r (cur++[c]) w h;simp only [zF,List.length_cons,List.length_nil] at this ⊢;omega
def xq (x:WO):List (List UInt8):=if arS x.name = true then V0 x.val else [x.val]
def Y1:=qd Proofs.Tryz.f110 []
def Wk (Γ:Env) (f:Nat):Prop:=Own Γ.P f∧∀ n:Int,EvN Γ f [.sc (.int .i32 n)] (V.bool (n == 32))
theorem wz {Γ:Env} {f:Nat} (h:Has Γ.P f 5 Y1.1.1.ac Y1.1.2) :Wk Γ f:=by
 refine ⟨h.own,fun n=>?_⟩
 refine Qb h (by simp) (by simp only [V.closed]) (by simp only [V.noSl]) fun C hC hm=>?_
 subst hC;simp only [Y1,qd,DC.ac]
 exact zg
def UH (Γ:Env) (f:Nat):Prop:=∀ (s:List UInt8) (g:Nat) (ho:Own Γ.P g) (hg:∀ n:Int,EvN Γ g [.sc (.int .i32 n)] (V.bool (n == 32))) (hs:s.length < 2 ^ 30),EvC Γ f [V.str s,.clo g []] (.sl 1 ((V0 s).map V.str))
def X4:=qd Proofs.Tryz.f40 []
def VI (Γ:Env) (f:Nat):Prop:=∀ (x:WO) (hv:x.val.length < 2 ^ 30),EvC Γ f [x.v] (.sl 1 ((xq x).map V.str))
theorem aah {Γ:Env} {f:Nat} (h:Has Γ.P f 13 X4.1.1.ac X4.1.2) (z0:WS Γ 108) (z1:UH Γ 109) (z2:Wk Γ 110):VI Γ f:=by
 intro x hv
 refine Qn h zsi zcl fun C hC hm=>?_
 subst hC
 simp only [X4,qd,DC.ac]
 have hs:=(z0 x.name).b
 have hf:=(z1 x.val 110 z2.1 z2.2 hv).b
 simp only [WO.v,WO.cells]
 rcases hq:arS x.name with _|_
 ·rw [hq] at hs
  rw [xq,if_neg (by rw [hq];decide)]
  refine zgo ?_;repeat' first|exact zt|apply zan|intro hc
  all_goals first|exact zr|(refine Qf _ rfl ?_;exact yY (xs:=[V.str x.val]) rfl (by simp))
 ·rw [hq] at hs
  rw [xq,if_pos hq]
  exact zg
def Ym:List (List UInt8):=[[108,101,97,115,116],[109,111,115,116],[115,117,105,116,101,115],[111,114,100,101,114],[107,101,121,115],[97,110,99,104,111,114,115],[104,97,115,104,101,115],[102,97,108,108,98,97,99,107]]
def U4:=qd Proofs.Tryz.f111 []
def jd (Γ:Env) (f:Nat):Prop:=EvW Γ f [] 1 (Ym.map V.str)
theorem adR {Γ:Env} {f:Nat} (h:Has Γ.P f 2 U4.1.1.ac U4.1.2) :jd Γ f:=by
 refine KB h (by simp) (by first|exact xA _|exact xr _) fun C hC hm=>?_
 subst hC
 simp only [U4,qd,DC.ac]
 refine zgo ?_;repeat' first|exact zt|apply zan|intro hc
 all_goals first|(refine adi _ _ rfl ?_ ?_<;>first|rfl|(simp [Ym];done))
def U5:=qd Proofs.Tryz.f43 []
def je (Γ:Env) (f:Nat):Prop:=∀ (s:List UInt8),EvN Γ f [V.str s] (V.bool (decide (s∈Ym)))
theorem adS {Γ:Env} {f:Nat} (h:Has Γ.P f 18 U5.1.1.ac U5.1.2) (z0:jd Γ 111):je Γ f:=by
 intro s
 refine Qb h zsi zcl zcl fun C hC hm=>?_
 subst hC
 simp only [U5,qd,DC.ac]
 have hwd:=z0
 have hlw:(Ym.map V.str).length = 8:=rfl
 refine zgo ?_;repeat' first|exact zt|apply zan|intro hc
 refine Qt (ι:=Nat) (fun k=>k≤8∧s ∉ Ym.take k) (fun k=>[(4,V.int k)]) (fun k=>8 - k) 0 (by omega) ⟨by omega,by simp⟩ zol zlt zet fun k hk K' hL=>?_
 obtain ⟨hk,hinv⟩:=hk
 simp only [ovT,Jn,Nat.reduceEqDiff,reduceIte]
 by_cases h8:k = 8
 ·subst h8
  rw [zv (show ¬ s∈Ym from hinv)]
  have e1:decide (((8:Nat):Int) < ((8:Nat):Int)) = false:=by decide
  (have zx:=za hlw e1);exact zg
 ·have hw:=Qd (k:=k) (by omega)
  have e1:decide ((k:Int) < ((8:Nat):Int)) = true:=by simp;omega
  obtain ⟨y,hy⟩:∃ y,Ym[k]? = some y:=⟨_,zf (by show k < 8;omega)⟩
  have ht:Ym.take (k + 1) = Ym.take k++[y]:=by rw [zB,hy];rfl
  rcases hq:y == s with _|_
  ·have hno:s ∉ Ym.take (k + 1):=by
    rw [ht];intro h
    rcases zX.1 h with h|h
    ·exact hinv h
    ·simp at h;subst h;simp at hq
   (have zx:=za hlw (za e1 (za hw (za hq hy))));refine zgo ?_;repeat' first|exact zt|apply zan|intro hc
   all_goals exact hL _ (k + 1) zet ⟨by omega,hno⟩ (by omega) zoe
  ·rw [zu (by rw [← eq_of_beq hq];exact zj hy)]
   (have zx:=za hlw (za e1 (za hw (za hq hy))));exact zg
end Av
end
