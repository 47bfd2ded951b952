/- K23 -/
import Derived.Test.YtjnbmkoekngljaaGreatDoorK22
import Derived.Test.YtjnbmkoekngljaaGreatDoorK20
import Derived.Test.YtjnbmkoekngljaaGreatDoorK19
import Derived.Test.YtjnbmkoekngljaaGreatDoorK21
set_option linter.unusedVariables false
set_option linter.unusedSimpArgs false
section
set_option maxRecDepth 10000
set_option maxHeartbeats 4000000
namespace Av
open Go
attribute [local irreducible] AWp x8 adc afE awS awC am1 awQ anX Yf abo ama awR acg awB okR agS ris
theorem avc {l:List Int} {k:Nat} {au:Bool} (hk:k≤l.length):(atX l k au).2≤l.length:=by
 have k1:=Je (l:=l) (k:=k) (n:=1000) hk
 have k2:=WD (l:=l) (xs:=[3,2,4,1]) k1
 have k3:=WD (l:=l) (xs:=[0,5,10]) k2
 have k4:=WD (l:=l) (xs:=[1000,100,50,20]) k3
 have k5:=WD (l:=l) (xs:=[3,0,1]) k4
 unfold atX
 cases au
 ·exact Je k4
 ·exact Je k5
theorem aj7 {l:List Int} {k:Nat} {iss sub:List UInt8} {a b id sg:Int} {au:Bool} (hk:k≤l.length):(aiO l k iss sub a b id sg au).2≤l.length:=avc hk
def arn (i:Nat):List UInt8:=[[99,97],[99,98],[99,99]].getD i []
theorem aqt (i:Nat):(arn i).length≤2:=by
 match i with
 | 0|1|2=>decide
 | n + 3=>simp [arn]
def q8 (l:List Int):Nat→Nat→Nat→List UInt8→Int→List Qw→(List Qw×List UInt8×Int)×Nat
 | 0,_,k,iss,sg,ab=>((ab,iss,sg),k)
 | m + 1,i,k,iss,sg,ab=>q8 l m (i + 1) (aiO l k iss (arn i) 5 2048 (11 + (i:Int)) sg true).2 (arn i) (11 + (i:Int)) ((aiO l k iss (arn i) 5 2048 (11 + (i:Int)) sg true).1 :: ab)
def j9 (l:List Int) (k:Nat) (nm:List UInt8) (a b id:Int):List Qw×Nat :=
 let n:=ofD l k [1,0,2]
 let s:=Jx l n.2 2
 let g:=q8 l n.1.toNat 0 s.2 [114,111,111,116] (1 + s.1) []
 let c:=aiO l g.2 g.1.2.1 nm a b id g.1.2.2 false
 (c.1 :: g.1.1,c.2)
theorem ahL:∀ l:List Qw,closedC (l.map Qw.v)
 | []=>trivial
 | x :: r=>⟨by simp [Qw.v,Qw.cells,V.cells,closedL,V.closed],ahL r⟩
theorem ahK:∀ l:List Qw,closedL (l.map Qw.v)
 | []=>trivial
 | x :: r=>⟨q9 x,ahK r⟩
theorem ale {o:Nat→Option Ob} {br:List Nat} {B:Option (List Nat)}:∀ l:List Qw,vB o br B (l.map Qw.v) (l.map Qw.v)
 | []=>trivial
 | x :: r=>⟨Qg _ _ _ _ (by simp [Qw.v,Qw.cells,V.cells,closedL,V.closed]),ale r⟩
theorem aq3:∀ l:List Qw,ntL (l.map Qw.v)
 | []=>trivial
 | x :: r=>⟨by simp [Qw.v],aq3 r⟩
theorem ald {o:Nat→Option Ob} {br:List Nat} {B:Option (List Nat)}:∀ l:List Qw,Jd o br B (l.map Qw.v) (l.map Qw.v)
 | []=>trivial
 | x :: r=>⟨Qc _ _ _ _ (q9 x),ald r⟩
def chS (l:List Int) (nm:List UInt8) (a b id:Int) (n i k:Nat) (iss:List UInt8) (sg:Int) (ab:List Qw):St :=
 stL [(0,.ptr 0 0),(1,V.str nm),(3,V.int id),(6,.ptr 1 0),(9,V.int n),(10,V.int sg),(11,V.str iss),(12,.hd 2 0 ab.length),(13,V.int i)] [.box true (Jj l k),.box true [V.int a,V.int b],.buf true 15 (ab.map Qw.v)]
def ad3 (Qf Qb Wa:Nat):AC:=Qa [0,1,3,6] (.reg [xo 6 (.box true 2 (.t 2)),xo 8 (.mknil 15)]) (Qa [0,1,3,6,9] (.reg [mv 16 0,xo 17 (.bslice 3 1 false [vi0] [(0,(.c (V.int 1))),(1,(.c (V.int 0))),(2,(.c (V.int 2)))]),cl 18 Qf [16,17],mv 9 18]) (Qa [0,1,3,6,9,10,11] (.reg [mv 19 0,xo 20 (.call Qb [(.t 19),(.c (V.int 2))]),xo 21 (.bin .add (.c (V.int 1)) (.t 20)),mv 10 21,mc 11 (V.str [114,111,111,116])]) (Qa [0,1,3,6,9,10,11,12] (.reg [xo 12 (.mknil 15)]) (Qa [0,1,3,6,10,11,12] (Qa [0,1,3,6,9,10,11,12,13] (.reg [mc 13 (V.int 0)]) (.block 0 (JH [0,1,3,6,9,10,11,12,13] (Qa [0,1,3,6,9,10,11,12,13] (Qa [0,1,3,6,9,10,11,12,13,24] (.reg [mv 22 13,mv 23 9,bn 24 .lss 22 23]) (.cond (.t 24) .skip (.exit 0))) (Qa [0,1,3,6,9,10,11,12,13] (.block 1 (Qa [0,1,3,6,9,10,11,12,13,14] (.reg [xo 27 (.bslice 3 1 false [vs0] [(0,(.c (V.str [99,97]))),(1,(.c (V.str [99,98]))),(2,(.c (V.str [99,99])))]),mv 28 13,ia 29 1 27 28,ld 30 1 29,mv 14 30]) (Qa [0,1,3,6,9,12,13,14,15] (.reg [mv 31 0,mv 32 11,mv 33 14,xo 34 (.build [vi0,vi0] [(0,1,(.c (V.int 5))),(1,1,(.c (V.int 2048)))]),mv 35 13,xo 36 (.bin .add (.c (V.int 11)) (.t 35)),mv 37 10,xo 38 (.call Wa [(.t 31),(.t 32),(.t 33),(.t 34),(.t 36),(.t 37),(.c (V.bool true))]),xo 15 (.alloc [.val vi0,.val vs0,.val vs0,.val vi0,.val vi0,.val vi0,.val vi0,.val vi0,.val vi0,.val vi0,.val (.bool false),.val vi0,.nil 1,.val vi0,.val vi0]),xs 15 15 38]) (Qa [0,1,3,6,9,12,13,14] (.reg [xo 39 (.load true 15 (.t 15)),xo 40 (.obslice 1 15 true [vi0,vs0,vs0,vi0,vi0,vi0,vi0,vi0,vi0,vi0,(.bool false),vi0,vn0,vi0,vi0] [(0,(.t 39))]),mv 41 12,xo 42 (.append 15 152 [vi0,vs0,vs0,vi0,vi0,vi0,vi0,vi0,vi0,vi0,(.bool false),vi0,vn0,vi0,vi0] (.t 40) (.t 41)),mv 12 42]) (.reg [mv 43 13,xo 44 (.bin .add (.c (V.int 11)) (.t 43)),mv 45 14,mv 10 44,mv 11 45]))))) (.reg [mv 25 13,bc 26 .add 25 (V.int 1),mv 13 26])))))) (Qa [8] (.reg [mv 46 0,mv 47 11,mv 48 1,xo 49 (.load true 2 (.t 6)),mv 50 3,mv 51 10,xo 52 (.call Wa [(.t 46),(.t 47),(.t 48),(.t 49),(.t 50),(.t 51),(.c (V.bool false))]),xo 53 (.obslice 1 15 true [vi0,vs0,vs0,vi0,vi0,vi0,vi0,vi0,vi0,vi0,(.bool false),vi0,vn0,vi0,vi0] [(0,(.t 52))]),mv 54 12,xo 55 (.append 15 152 [vi0,vs0,vs0,vi0,vi0,vi0,vi0,vi0,vi0,vi0,(.bool false),vi0,vn0,vi0,vi0] (.t 53) (.t 54)),mv 8 55]) .ret))))) def r_make_Chain:List Jl:=[.tmp 8]
def xP (Γ:Env) (f:Nat):Prop:=∀ (l:List Int) (k:Nat) (nm:List UInt8) (a b id:Int) (hl:l.length≤400) (hk:k≤l.length) (h2:nm.length≤900) (ha:I60 a) (hb:I60 b) (hi:I60 id),EvD Γ f [V.str nm,.agg [V.int a,V.int b],V.int id] (Jj l k) (.sl 15 ((j9 l k nm a b id).1.map Qw.v)) (Jj l (j9 l k nm a b id).2)
attribute [local go_sem] Qw.cells Jj in
theorem anO {Γ:Env} {f Qf Qb Wa:Nat} (h:Has Γ.P f 56 (ad3 Qf Qb Wa) r_make_Chain) (z0:YU Γ Qf) (z1:JK Γ Qb) (z2:Ko Γ Wa):xP Γ f:=by
 intro l k nm a b id hl hk h2 ha hb hi
 refine Y6 h zsi zcl zc3 zc3 fun C hC hm=>?_
 subst hC
 unfold ad3
 have hm:C.m = 1:=by simpa using hm
 simp only [j9]
 have n1:=z0 l k [1,0,2] hl hk (by simp) (by simp)
 have k1:=WD (l:=l) (k:=k) (xs:=[1,0,2]) hk
 have m1:=afI (l:=l) (k:=k) (xs:=[1,0,2]) (by simp) (by simp)
 generalize ofD l k [1,0,2] = w1 at *
 obtain ⟨n,d1⟩:=w1
 simp only at k1 m1
 obtain ⟨n,rfl⟩:∃ j:Nat,n = (j:Int):=⟨n.toNat,by simp only [List.mem_cons,List.not_mem_nil,or_false] at m1;omega⟩
 have hn2:n≤2:=by simp only [List.mem_cons,List.not_mem_nil,or_false] at m1;omega
 have n2:=z1 l d1 2 hl k1
 have k2:=Je (l:=l) (k:=d1) (n:=2) k1
 have r2:=JT (l:=l) (k:=d1) (n:=2) (by omega) (by omega)
 generalize Jx l d1 2 = w2 at *
 obtain ⟨s,d2⟩:=w2
 simp only at k2 r2
 have hws:IntKind.i64.wrap (1 + s) = 1 + s:=Yv (by omega) (by omega)
 simp only [Int.toNat_natCast]
 generalize hG:q8 l n 0 d2 [114,111,111,116] (1 + s) [] = g
 simp only [Jj,List.map_cons,List.map_nil] at n1 n2 ⊢
 (have zx:=hws);refine zgo ?_;repeat' first|exact zt|apply zan|intro hc
 refine jt (ι:=Nat×Nat×Nat×List UInt8×Int×List Qw) (fun q=>q8 l q.1 q.2.1 q.2.2.1 q.2.2.2.1 q.2.2.2.2.1 q.2.2.2.2.2 = g∧q.2.1 + q.1 = n∧q.2.2.1≤l.length∧q.2.2.2.1.length≤900∧q.2.2.2.2.2.length = q.2.1) (fun q=>chS l nm a b id n q.2.1 q.2.2.1 q.2.2.2.1 q.2.2.2.2.1 q.2.2.2.2.2) (fun q=>q.1) (n,0,d2,[114,111,111,116],1 + s,[]) ⟨hG,by simp,k2,by simp,rfl⟩ ?_ fun q hq K' hL=>?_
 ·refine VJ [0,1,11001] none (fun p hp=>?_) ?_ (by simp) (by rw [hm];rfl)
  ·simp only [List.mem_cons,List.not_mem_nil,or_false] at hp
   rcases hp with rfl|rfl|rfl|rfl|rfl|rfl|rfl|rfl|rfl
   ·show conv _ _ _ (.ptr 0 0) (.ptr 0 0)
    simp [conv]
   ·exact Qc _ _ _ (V.str nm) trivial
   ·exact Qc _ _ _ (V.int id) trivial
   ·show conv _ _ _ (.ptr 1 0) (.ptr 1 0)
    simp [conv]
   ·exact Qc _ _ _ (V.int n) trivial
   ·exact Qc _ _ _ (V.int (1 + s)) trivial
   ·exact Qc _ _ _ (V.str _) trivial
   ·show conv _ _ _ (.hd 11001 0 0) (.hd 2 0 0)
    simp [conv]
   ·exact Qc _ _ _ (V.int 0) trivial
  ·exact ⟨⟨_,rfl,fun h=>h,Qg _ _ _ _ (QB _ _)⟩,⟨_,rfl,fun h=>h,Qg _ _ _ _ ⟨trivial,trivial,trivial⟩⟩,⟨_,rfl,fun h=>h,rfl,rfl⟩,trivial⟩
 obtain ⟨m,i,d,iss,sg,ab⟩:=q
 simp only at hq hL ⊢
 obtain ⟨q1,q2,q3,q4,q5⟩:=hq
 have hta:List.take ab.length (ab.map Qw.v) = ab.map Qw.v:=List.take_of_length_le (by simp)
 have hlm:(ab.map Qw.v).length = ab.length:=List.length_map _
 have hce:(∀ y∈ab.map Qw.v,y.cells.length = 15) = True:=eq_true fun y hy=>by
  obtain ⟨z,_,rfl⟩:=List.mem_map.1 hy
  rfl
 rcases m with _|m
 ·have hin:i = n:=by omega
  subst hin
  have e1:decide ((i:Int) < (i:Int)) = false:=by simp
  rw [q8] at q1
  subst q1
  have c1:=z2 l d iss nm a b id sg false hl q3 q4 h2 ha hb hi
  have hcl:=q9 (aiO l d iss nm a b id sg false).1
  simp only [chS,stL]
  generalize aiO l d iss nm a b id sg false = w at *
  obtain ⟨cc,d5⟩:=w
  simp only [Jj,Qw.v,Qw.cells] at c1
  (have zx:=And.intro e1 (And.intro hta (And.intro hlm hce)));refine zgo ?_;repeat' first|exact zt|apply zan|intro hc
  all_goals
   refine Xb _ rfl rfl (QB l d5) ?_
   show conv _ _ _ (.hd 12003 0 (1 + ab.length)) (.sl 15 ((cc :: ab).map Qw.v))
   rw [al8]
   refine ⟨trivial,by simp,.inr ⟨true,_,rfl,?_,aq3 _,ahK _⟩⟩
   rw [List.drop_zero,List.take_of_length_le (by show (ab.map Qw.v).length + 1≤1 + ab.length;rw [hlm];omega)]
   exact ⟨Qc _ _ _ _ (q9 cc),ald ab⟩
 ·have e1:decide ((i:Int) < (n:Int)) = true:=by simp;omega
  rw [q8] at q1
  have hsj:([99,97] :: [[99,98],[99,99]])[i]? = some (arn i):=by
   match i,(show i < 2 by omega) with
   | 0,_=>rfl
   | 1,_=>rfl
  have hs2:=aqt i
  have c1:=z2 l d iss (arn i) 5 2048 (11 + (i:Int)) sg true hl q3 q4 (by omega) (by unfold I60;omega) (by unfold I60;omega) (by unfold I60;omega)
  have hd1:=aj7 (l:=l) (k:=d) (iss:=iss) (sub:=arn i) (a:=5) (b:=2048) (id:=11 + (i:Int)) (sg:=sg) (au:=true) q3
  have hw1:IntKind.i64.wrap (11 + (i:Int)) = 11 + (i:Int):=Yv (by omega) (by omega)
  have hw:=Qj (k:=i) (by omega)
  simp only [chS,stL]
  generalize aiO l d iss (arn i) 5 2048 (11 + (i:Int)) sg true = w at *
  obtain ⟨cc,d5⟩:=w
  generalize arn i = sj at *
  simp only [Jj,Qw.v,Qw.cells] at c1
  have hst:([V.str [99,97],V.str [99,98],V.str [99,99]])[i]? = some (V.str sj):=by
   have:([V.str [99,97],V.str [99,98],V.str [99,99]]) = ([99,97] :: [[99,98],[99,99]]).map V.str:=rfl
   rw [this,List.getElem?_map,hsj];rfl
  (have zx:=And.intro e1 (And.intro hta (And.intro hlm (And.intro hce (And.intro hw (And.intro hw1 hst))))));refine zgo ?_;repeat' first|exact zt|apply zan|intro hc
  all_goals
   refine hL _ (m,i + 1,d5,sj,11 + (i:Int),cc :: ab) ⟨q1,by simp only;omega,hd1,by show sj.length≤900;omega,by simp only [List.length_cons];omega⟩ (Nat.lt_succ_self _) (VJ [0,1,21003] none (fun p hp=>?_) ?_ (by simp) (by rw [hm];rfl))
   ·simp only [List.mem_cons,List.not_mem_nil,or_false] at hp
    rcases hp with rfl|rfl|rfl|rfl|rfl|rfl|rfl|rfl|rfl
    ·show conv _ _ _ (.ptr 0 0) (.ptr 0 0)
     simp [conv]
    ·exact Qc _ _ _ (V.str nm) trivial
    ·exact Qc _ _ _ (V.int id) trivial
    ·show conv _ _ _ (.ptr 1 0) (.ptr 1 0)
     simp [conv]
    ·exact Qc _ _ _ (V.int n) trivial
    ·exact Qc _ _ _ (V.int (11 + (i:Int))) trivial
    ·exact Qc _ _ _ (V.str _) trivial
    ·show conv _ _ _ (.hd 21003 0 (1 + ab.length)) (.hd 2 0 (cc :: ab).length)
     rw [List.length_cons,Nat.add_comm 1]
     simp [conv]
    ·exact Qc _ _ _ (V.int (i + 1:Nat)) trivial
   ·exact ⟨⟨_,rfl,fun h=>h,Qg _ _ _ _ (QB _ _)⟩,⟨_,rfl,fun h=>h,Qg _ _ _ _ ⟨trivial,trivial,trivial⟩⟩,⟨_,rfl,fun h=>h,rfl,⟨Qg _ _ _ _ (by simp [Qw.cells,V.cells,closedL,V.closed]),ale ab⟩,ahL _⟩,trivial⟩
def acf (l:List Int) (k:Nat):(Int×List Int×Bool×Bool×Int)×Nat :=
 let a:=ofD l k [1,1,2,3]
 let b:=aau l a.2
 let c:=Jx l b.2 2
 let d:=Jx l c.2 2
 let m:=Jx l d.2 (5 - a.1)
 ((a.1,b.1,c.1 == 1,d.1 == 1,a.1 + m.1),m.2)
def aig (l:List Int) (k:Nat) (least most:Int):(Int×Int)×Nat :=
 let t:=Jx l k 3
 if t.1 > 0 then ((1,(ofD l t.2 [3,4,2]).1),(ofD l t.2 [3,4,2]).2) else ((least,most),t.2)
def arU (l:List Int) (k:Nat):(Int×Int)×Nat :=
 let y:=aum l k
 let t:=Jx l y.2 3
 if t.1 > 0 then (((ofD l t.2 [5,7]).1,(ada l (ofD l t.2 [5,7]).2 (ofD l t.2 [5,7]).1).1),(ada l (ofD l t.2 [5,7]).2 (ofD l t.2 [5,7]).1).2) else (y.1,t.2)
def ag3 (l:List Int) (k:Nat) (nm:List UInt8):QI×Nat :=
 let z:=arU l k
 let i:=Jx l z.2 20
 let o:=Jx l i.2 9
 let c:=if o.1 == 8 then (([]:List Qw),o.2) else j9 l o.2 nm z.1.1 z.1.2 (100 + i.1)
 (⟨z.1.1,z.1.2,100 + i.1,c.1⟩,c.2)
def W0 (l:List Int) (nm:List UInt8):Nat→Nat→List QI→List QI×Nat
 | 0,k,xs=>(xs,k)
 | m + 1,k,xs=>W0 l nm m (ag3 l k nm).2 (xs++[(ag3 l k nm).1])
def asr (n:Int):List Int:=([[1,2],[1,2],[1],[2,11],[]]:List (List Int)).getD n.toNat []
def au0 (n:Int):List Int:=([[1,2,3,4],[2,3,4],[3,4]]:List (List Int)).getD n.toNat []
def au3 (l:List Int) (k:Nat) (nm:List UInt8):QL×Nat :=
 let b:=acf l k
 let m:=aig l b.2 b.1.1 b.1.2.2.2.2
 let c:=ofD l m.2 [1,2,1,3,0]
 let x:=W0 l nm c.1.toNat c.2 []
 let a:=Jx l x.2 5
 let h:=Jx l a.2 3
 (⟨nm,m.1.1,m.1.2,b.1.2.1,b.1.2.2.1,x.1,asr a.1,au0 h.1,b.1.2.2.2.1⟩,h.2)
def asv:List V:=[.top,.top,.top,.top,.top,.top,.top,.top,.top]
abbrev amD:V:=.sc (.slice none 0 0)
def agk (nm:List UInt8) (least most:Int) (su:List Int) (ow fa:Bool) (vi va vh:V):List V:=[V.str nm,V.int least,V.int most,.sl 1 (su.map V.int),V.bool ow,vi,va,vh,V.bool fa]
def enS (l:List Int) (k:Nat) (nm:List UInt8) (least most:Int) (su:List Int) (ow fa:Bool) (vi va vh:V):St :=
 stL [(0,.ptr 0 0),(1,V.str nm),(4,.ptr 1 0),(5,.ptr 2 0)] [.box true (Jj l k),.box true asv,.box true (agk nm least most su ow fa vi va vh)]
section
variable {C:Ctx} {nt:Nat} {s:St} {K:St→Prop} {E:Nat→St→Prop} {R:St→Prop}
theorem wQ {ks:List Nat} {x y:AC} {ι:Type} (good:ι→Prop) (mid:ι→St) (h:∀ K':St→Prop,(∀ s' i,good i→Cl C.m s' (mid i)→K' s')→AWp C nt x s K' E R) (h':∀ i,good i→AWp C nt y (mid i) K E R):AWp C nt (Qa ks x y) s K E R :=
 arf good mid (h _ fun s' i h1 h2=>⟨i,h1,h2⟩) h'
end
theorem Vk {o:Nat→Option Ob} {br:List Nat} {B:Option (List Nat)} (a b c d e f g h i:V):Jd o br B [a,b,c,d,e,f,g,h,i] asv:=by
 simp only [asv,Jd,avO,and_self]
theorem atE {o:Nat→Option Ob} {br:List Nat} {B:Option (List Nat)} (a b c:Int):Jd o br B [V.int a,V.int b,V.int c,amD] [V.int a,V.int b,V.int c,.sl 15 []] :=
 ⟨Qc _ _ _ _ trivial,Qc _ _ _ _ trivial,Qc _ _ _ _ trivial,(aqZ _ _ _ _ _).2 rfl,trivial⟩
theorem aiL {o:Nat→Option Ob} {br:List Nat} {B:Option (List Nat)} {vi vi2:V} (nm:List UInt8) (least most:Int) (su:List Int) (ow fa:Bool) (h:conv o br B vi vi2) :
  Jd o br B (agk nm least most su ow fa vi amD amD) (agk nm least most su ow fa vi2 amD amD) :=
 ⟨Qc _ _ _ _ trivial,Qc _ _ _ _ trivial,Qc _ _ _ _ trivial,Qc _ _ _ _ trivial,Qc _ _ _ _ trivial,h,Qc _ _ _ _ trivial,Qc _ _ _ _ trivial,Qc _ _ _ _ trivial,trivial⟩
theorem aqV {o:Nat→Option Ob} {br:List Nat} {B:Option (List Nat)} {vi vi2 va va2 vh vh2:V} (nm:List UInt8) (least most:Int) (su:List Int) (ow fa:Bool) (h:conv o br B vi vi2) (h2:conv o br B va va2) (h3:conv o br B vh vh2) :
  Jd o br B (agk nm least most su ow fa vi va vh) (agk nm least most su ow fa vi2 va2 vh2) :=
 ⟨Qc _ _ _ _ trivial,Qc _ _ _ _ trivial,Qc _ _ _ _ trivial,Qc _ _ _ _ trivial,Qc _ _ _ _ trivial,h,h2,h3,Qc _ _ _ _ trivial,trivial⟩
theorem axs {o:Nat→Option Ob} {br:List Nat} {a n:Nat} {l:List Int} (h:o a = some (.buf true 1 (l.map V.int))) (hb:a ∉ br) (hn:n = l.length):conv o br none (.hd a 0 n) (.sl 1 (l.map V.int)):=by
 subst hn
 rw [al8]
 exact ⟨trivial,hb,.inl ⟨true,_,h,by rw [List.drop_zero,List.take_of_length_le (by simp)]⟩⟩
theorem axq {o:Nat→Option Ob} {br:List Nat} {B:Option (List Nat)} {s:Nat}:conv o br B amD (.sl s []):=(aqZ _ _ _ _ _).2 rfl
theorem aeE (nm:List UInt8) (least most:Int) (su:List Int) (ow fa:Bool) (vi va vh:V) (h1:vi.closed) (h2:va.closed) (h3:vh.closed):closedL (agk nm least most su ow fa vi va vh):=⟨trivial,trivial,trivial,trivial,trivial,h1,h2,h3,trivial,trivial⟩
theorem akh {l:List Int} {k:Nat} {a:Int}:(ada l k a).1.natAbs≤100000:=by
 unfold ada
 split
 ·exact Nat.zero_le _
 ·rename_i h
  refine KZ h ?_ ?_
  ·unfold afC;(repeat' split)<;>simp
  ·unfold afC;(repeat' split)<;>simp
theorem aoj {l:List Int} {k:Nat} {a:Int} (hk:k≤l.length):(ada l k a).2≤l.length:=by
 unfold ada
 split
 ·exact hk
 ·exact WD hk
theorem aqH {l:List Int} {k:Nat}:(aum l k).1.1.natAbs≤100000∧(aum l k).1.2.natAbs≤100000:=⟨KZ (by simp) (by simp) (by decide),akh⟩
theorem ahJ {l:List Int} {k:Nat} {nm:List UInt8} {a b id:Int} (hk:k≤l.length):(j9 l k nm a b id).2≤l.length:=by
 have k1:=WD (l:=l) (k:=k) (xs:=[1,0,2]) hk
 have k2:=Je (l:=l) (n:=2) k1
 have:∀ (m i d:Nat) (iss:List UInt8) (sg:Int) (ab:List Qw),d≤l.length→(q8 l m i d iss sg ab).2≤l.length:=by
  intro m
  induction m with
  | zero=>intro i d iss sg ab h;exact h
  | succ m ih=>intro i d iss sg ab h;rw [q8];exact ih _ _ _ _ _ (aj7 h)
 simp only [j9]
 exact aj7 (this _ _ _ _ _ _ k2)
theorem atq {l:List Int} {k:Nat} (hk:k≤l.length):(arU l k).2≤l.length:=by
 have h1:=atr (l:=l) hk
 have h2:=Je (l:=l) (n:=3) h1
 simp only [arU]
 split
 ·exact aoj (WD h2)
 ·exact h2
theorem aoL {l:List Int} {k:Nat} {nm:List UInt8} (hk:k≤l.length):(ag3 l k nm).2≤l.length:=by
 have h1:=atq (l:=l) hk
 have h2:=Je (l:=l) (n:=20) h1
 have h3:=Je (l:=l) (n:=9) h2
 simp only [ag3]
 split
 ·exact h3
 ·exact ahJ h3
theorem afM {l:List Int} {nm:List UInt8}:∀ (m k:Nat) (xs:List QI),k≤l.length→(W0 l nm m k xs).2≤l.length∧(W0 l nm m k xs).1.length = xs.length + m
 | 0,k,xs,h=>⟨h,rfl⟩
 | m + 1,k,xs,h=>by
   obtain ⟨h1,h2⟩:=afM (l:=l) (nm:=nm) m (ag3 l k nm).2 (xs++[(ag3 l k nm).1]) (aoL h)
   rw [W0]
   exact ⟨h1,by rw [h2,List.length_append,List.length_singleton];omega⟩
def enL (l:List Int) (k:Nat) (nm:List UInt8) (least most:Int) (su:List Int) (ow fa:Bool) (m:Nat) (xs:List QI):St :=
 stL [(0,.ptr 0 0),(1,V.str nm),(4,.ptr 1 0),(5,.ptr 2 0),(6,V.int m)] [.box true (Jj l k),.box true asv,.box true (agk nm least most su ow fa (.hd 3 0 xs.length) amD amD),.buf true 4 (xs.map QI.v)]
theorem wt:∀ l:List QI,closedC (l.map QI.v)
 | []=>trivial
 | x :: r=>⟨by simp [QI.v,QI.cells,V.cells,closedL,V.closed],wt r⟩
theorem adz {o:Nat→Option Ob} {br:List Nat} {B:Option (List Nat)} {ys zs:List V} (h:vB o br B ys zs):∀ l:List QI,vB o br B (l.map QI.v++ys) (l.map QI.v++zs)
 | []=>h
 | x :: r=>⟨Qg _ _ _ _ (by simp [QI.v,QI.cells,V.cells,closedL,V.closed]),adz h r⟩
theorem amO (e:QL):e.v.closed:=by simp only [QL.v,QL.cells,V.closed,closedL,and_self]
@[go_sem] def U9 (Qb:Nat):AO:=cl 27 Qb [23,26]
def abc (Qb:Nat):List AO:=[fa 21 1 5,ld 22 1 21,mv 23 0,fa 24 1 5,ld 25 1 24,xo 26 (.bin .sub (.c (V.int 5)) (.t 25)),U9 Qb,bn 28 .add 22 27,fa 29 2 5,xs 1 29 28]
def abq:List (List Nat):=[[],[0],[],[],[3],[4],[2,5],[1,6],[0,1,2,3,4,5,6,7],[8,7,6,0,1,2,3,4,5,6,7]]
def aa7:OT:=.one 0 (.one 2 (.one 3 (.or 1 (.one 4 (.one 5 (.one 6 (.one 7 (.one 8 (.one 9 .done)))))) (.or 4 (.one 5 (.or 1 (.one 6 (.one 7 (.one 8 (.one 9 .done)))) (.or 6 (.one 1 (.one 7 (.one 8 (.one 9 .done)))) .done))) .done))))
@[go_sem] def we (Qb:Nat):OP:=oN 7 (bn 28 .add 22 27) (oN 8 (fa 29 2 5) (.one 9 true [6] (xs 1 29 28) .done))
@[go_sem] def wd (Qb:Nat):OP:=.one 6 true [] (U9 Qb) (we Qb)
@[go_sem] def aba (Qb:Nat):OP:=oN 0 (fa 21 1 5) (oN 2 (mv 23 0) (oN 3 (fa 24 1 5) (.or 1 true [] (ld 22 1 21) (.one 4 true [] (ld 25 1 24) (oN 5 (xo 26 (.bin .sub (.c (V.int 5)) (.t 25))) (wd Qb))) (.or 4 true [] (ld 25 1 24) (oN 5 (xo 26 (.bin .sub (.c (V.int 5)) (.t 25))) (.or 1 true [] (ld 22 1 21) (wd Qb) (.or 6 true [] (U9 Qb) (.one 1 true [] (ld 22 1 21) (we Qb)) .done))) .done))))
instance (Qb:Nat):RG [1,4,6] aa7 (aba Qb) (abc Qb) abq 10 (fun _=>false):=⟨rfl,by kernel_rfl,by kernel_rfl⟩
def wJ (Qf xH Q4 Qb aeD W3 X9:Nat):AC:=Qa [0,1,4] (.reg [xo 4 (.alloc [.val vs0,.val vi0,.val vi0,.nil 1,.val (.bool false),.nil 4,.nil 1,.nil 1,.val (.bool false)])]) (Qa [0,1,4,5] (.reg [mv 10 1,mv 11 0,xo 12 (.bslice 4 1 false [vi0] [(0,(.c (V.int 1))),(1,(.c (V.int 1))),(2,(.c (V.int 2))),(3,(.c (V.int 3)))]),cl 13 Qf [11,12],mv 14 0,cl 15 xH [14],mv 16 0,xo 17 (.call Q4 [(.t 16),(.c (V.int 2))]),mv 18 0,xo 19 (.call Q4 [(.t 18),(.c (V.int 2))]),xo 20 (.build [vs0,vi0,vi0,vn0,(.bool false),vn0,vn0,vn0,(.bool false)] [(0,1,(.t 10)),(1,1,(.t 13)),(3,1,(.t 15)),(4,1,(.t 17)),(8,1,(.t 19))]),xo 5 (.alloc [.val vs0,.val vi0,.val vi0,.nil 1,.val (.bool false),.nil 4,.nil 1,.nil 1,.val (.bool false)]),xs 9 5 20]) (Qa [0,1,4,5] (yh [1,4,6] aa7 (aba Qb) (abc Qb) abq) (Qa [0,1,4,5] (Qa [0,1,4,5,32] (.reg [mv 30 0,xo 31 (.call Qb [(.t 30),(.c (V.int 3))]),bc 32 .gtr 31 (V.int 0)]) (.cond (.t 32) (.reg [mv 33 0,xo 34 (.bslice 3 1 false [vi0] [(0,(.c (V.int 3))),(1,(.c (V.int 4))),(2,(.c (V.int 2)))]),cl 35 Qf [33,34],fa 36 1 5,⟨none,.store 1 (.t 36) (.c (V.int 1)),none⟩,fa 37 2 5,xs 1 37 35]) .skip)) (Qa [0,4,5] (Qa [0,1,4,5,6] (.reg [mv 38 0,xo 39 (.bslice 5 1 false [vi0] [(0,(.c (V.int 1))),(1,(.c (V.int 2))),(2,(.c (V.int 1))),(3,(.c (V.int 3))),(4,(.c (V.int 0)))]),cl 40 Qf [38,39],mv 6 40]) (.block 0 (JH [0,1,4,5,6] (Qa [0,1,4,5,6] (Qa [0,1,4,5,6,42] (.reg [mv 41 6,bc 42 .gtr 41 (V.int 0)]) (.cond (.t 42) .skip (.exit 0))) (Qa [0,1,4,5,6] (.block 1 (Qa [0,1,4,5,6,7] (.reg [mv 45 0,cl 46 aeD [45],xo 7 (.alloc [.val vi0,.val vi0]),xs 2 7 46]) (Qa [0,1,4,5,6,7] (Qa [0,1,4,5,6,7,49] (.reg [mv 47 0,xo 48 (.call Qb [(.t 47),(.c (V.int 3))]),bc 49 .gtr 48 (V.int 0)]) (.cond (.t 49) (Qa [0,1,4,5,6,7] (.reg [mv 50 0,xo 51 (.bslice 2 1 false [vi0] [(0,(.c (V.int 5))),(1,(.c (V.int 7)))]),cl 52 Qf [50,51],xo 53 (.build [vi0,vi0] [(0,1,(.t 52)),(1,1,(.c (V.int 0)))]),xs 2 7 53]) (.reg [mv 54 0,fa 55 0 7,ld 56 1 55,cl 57 W3 [54,56],fa 58 1 7,xs 1 58 57])) .skip)) (Qa [0,1,4,5,6,7,8] (.reg [mv 59 0,xo 60 (.call Qb [(.t 59),(.c (V.int 20))]),xo 61 (.bin .add (.c (V.int 100)) (.t 60)),mv 8 61]) (Qa [0,1,4,5,6,7,8,9] (.reg [xo 62 (.load true 2 (.t 7)),mv 63 8,xo 64 (.build [vi0,vi0,vi0,vn0] [(0,2,(.t 62)),(2,1,(.t 63))]),xo 9 (.alloc [.val vi0,.val vi0,.val vi0,.nil 15]),xs 4 9 64]) (Qa [0,1,4,5,6,9] (Qa [0,1,4,5,6,7,8,9,67] (.reg [mv 65 0,xo 66 (.call Q4 [(.t 65),(.c (V.int 9))]),xo 67 (.un .not (.t 66))]) (.cond (.t 67) (.reg [mv 68 0,mv 69 1,xo 70 (.load true 2 (.t 7)),mv 71 8,cl 72 X9 [68,69,70,71],fa 73 3 9,xs 1 73 72]) .skip)) (.reg [fa 74 5 5,ld 75 1 74,xo 76 (.load true 4 (.t 9)),xo 77 (.obslice 1 4 true [vi0,vi0,vi0,vn0] [(0,(.t 76))]),xo 78 (.append 4 48 [vi0,vi0,vi0,vn0] (.t 75) (.t 77)),fa 79 5 5,xs 1 79 78]))))))) (.reg [mv 43 6,bc 44 .sub 43 (V.int 1),mv 6 44])))))) (Qa [0,4,5] (.reg [xo 80 (.bslice 2 1 false [vi0] [(0,(.c (V.int 1))),(1,(.c (V.int 2)))]),xo 81 (.bslice 2 1 false [vi0] [(0,(.c (V.int 1))),(1,(.c (V.int 2)))]),xo 82 (.bslice 1 1 false [vi0] [(0,(.c (V.int 1)))]),xo 83 (.bslice 2 1 false [vi0] [(0,(.c (V.int 2))),(1,(.c (V.int 11)))]),xo 84 (.obslice 5 1 false [vn0] [(0,(.t 80)),(1,(.t 81)),(2,(.t 82)),(3,(.t 83)),(4,(.c (.sc vn0)))]),mv 85 0,xo 86 (.call Qb [(.t 85),(.c (V.int 5))]),ia 87 1 84 86,ld 88 1 87,fa 89 6 5,xs 1 89 88]) (Qa [4,5] (.reg [xo 90 (.bslice 4 1 false [vi0] [(0,(.c (V.int 1))),(1,(.c (V.int 2))),(2,(.c (V.int 3))),(3,(.c (V.int 4)))]),xo 91 (.bslice 3 1 false [vi0] [(0,(.c (V.int 2))),(1,(.c (V.int 3))),(2,(.c (V.int 4)))]),xo 92 (.bslice 2 1 false [vi0] [(0,(.c (V.int 3))),(1,(.c (V.int 4)))]),xo 93 (.obslice 3 1 false [vn0] [(0,(.t 90)),(1,(.t 91)),(2,(.t 92))]),mv 94 0,xo 95 (.call Qb [(.t 94),(.c (V.int 3))]),ia 96 1 93 95,ld 97 1 96,fa 98 7 5,xs 1 98 97]) (Qa [4] (.reg [xo 99 (.load true 9 (.t 5)),xs 9 4 99]) .ret))))))) def r_make_Endpoint:List Jl:=[.cell 4 true 9]
def yP (Γ:Env) (f:Nat):Prop:=∀ (l:List Int) (k:Nat) (nm:List UInt8) (hl:l.length≤400) (hk:k≤l.length) (h2:nm.length≤900),EvD Γ f [V.str nm] (Jj l k) ((au3 l k nm).1.v) (Jj l (au3 l k nm).2)
theorem ajI {Γ:Env} {f Qf xH Q4 Qb aeD W3 X9:Nat} (h:Has Γ.P f 100 (wJ Qf xH Q4 Qb aeD W3 X9) r_make_Endpoint) (z0:YU Γ Qf) (z1:aa2 Γ xH) (z2:WO Γ Q4) (z3:JK Γ Qb) (z4:agD Γ aeD) (z5:aat Γ W3) (z6:xP Γ X9):yP Γ f:=by
 intro l k nm hl hk h2
 refine Y6 h zsi (amO _) zc3 zc3 fun C hC hm=>?_
 subst hC
 unfold wJ
 have hm:C.m = 1:=by simpa using hm
 simp only [au3]
 have n1:=z0 l k [1,1,2,3] hl hk (by simp) (by simp)
 have k1:=WD (l:=l) (k:=k) (xs:=[1,1,2,3]) hk
 have m1:=afI (l:=l) (k:=k) (xs:=[1,1,2,3]) (by simp) (by simp)
 have hb:acf l k = (let a:=ofD l k [1,1,2,3];let b:=aau l a.2;let c:=Jx l b.2 2;let d:=Jx l c.2 2;let m:=Jx l d.2 (5 - a.1);((a.1,b.1,c.1 == 1,d.1 == 1,a.1 + m.1),m.2)):=rfl
 generalize ofD l k [1,1,2,3] = w1 at *
 obtain ⟨least,d1⟩:=w1
 simp only at k1 m1 hb
 have hls:1≤least∧least≤3:=by simp only [List.mem_cons,List.not_mem_nil,or_false] at m1;omega
 have n2:=z1 l d1 hl k1
 have k2:=(aml (l:=l) k1).2
 generalize aau l d1 = w2 at *
 obtain ⟨su,d2⟩:=w2
 simp only at k2 hb
 have n3:=z2 l d2 2 hl k2 (by omega) (by omega)
 have k3:=Je (l:=l) (k:=d2) (n:=2) k2
 generalize Jx l d2 2 = w3 at *
 obtain ⟨q3,d3⟩:=w3
 simp only at k3 hb
 have n4:=z2 l d3 2 hl k3 (by omega) (by omega)
 have k4:=Je (l:=l) (k:=d3) (n:=2) k3
 generalize Jx l d3 2 = w4 at *
 obtain ⟨q4,d4⟩:=w4
 simp only at k4 hb
 have n5:=z3 l d4 (5 - least) hl k4
 have k5:=Je (l:=l) (k:=d4) (n:=5 - least) k4
 have r5:=JT (l:=l) (k:=d4) (n:=5 - least) (by omega) (by omega)
 generalize Jx l d4 (5 - least) = w5 at *
 obtain ⟨q5,d5⟩:=w5
 simp only at k5 r5 hb
 rw [hb]
 simp only [Jj,List.map_cons,List.map_nil] at n1 n2 n3 n4 n5 ⊢
 have hw5:IntKind.i64.wrap (5 - least) = 5 - least:=Yv (by omega) (by omega)
 have hw6:IntKind.i64.wrap (least + q5) = least + q5:=Yv (by omega) (by omega)
 rw [show (2:Int) - 1 = 1 from rfl] at n3 n4
 generalize (q3 == 1) = ow at *
 generalize (q4 == 1) = fa at *
 refine Ve fun K' hK=>?_
 simp (maxSteps:=1000000) only [go_sem]
 refine hK _ ?_
 clear hK
 clear K'
 (try simp only [go_sem])
 refine wQ (ι:=Unit) (fun _=>True) (fun _=>enS l d4 nm least 0 su ow fa amD amD amD) (fun K' hK'=>?_) (fun _ _=>?_)
 ·repeat' (first|(refine zsk ?_;intro K' hK)|(refine zrg ?_;intro K' hK)|refine zsp ?_|(refine zsc ?_ ?_<;>intro hc<;>first|exact znh|try simp only [znz] at hc)|simp (maxSteps:=1000000) only [go_sem,Jj]|(refine hK _ ?_;clear hK K')|apply zan|(apply Xz;(focus exact rfl);(focus first|exact n1|exact n2|exact n3|exact n4|exact (z0 _ _ _ zsd zsd zsd zsd)|exact (z1 _ _ zsd zsd)|exact (z2 _ _ _ zsd zsd zsd zsd)|exact (z3 _ _ _ zsd zsd));(focus exact rfl);(focus exact rfl))|(apply YV;(focus exact rfl);(focus exact zrd);(focus exact zrd);(focus first|exact n1|exact n2|exact n3|exact n4|exact (z0 _ _ _ zsd zsd zsd zsd)|exact (z1 _ _ zsd zsd)|exact (z2 _ _ _ zsd zsd zsd zsd)|exact (z3 _ _ _ zsd zsd));(focus exact rfl);(focus exact rfl);(focus exact zrd))|exact zsq|fail)
  all_goals
   refine hK' _ () trivial (VJ [0,1,12001] none (fun p hp=>?_) ?_ (by simp) (by rw [hm];rfl))
   ·simp only [List.mem_cons,List.not_mem_nil,or_false] at hp
    rcases hp with rfl|rfl|rfl|rfl
    ·show conv _ _ _ (.ptr 0 0) (.ptr 0 0)
     simp [conv]
    ·exact Qc _ _ _ (V.str nm) trivial
    ·show conv _ _ _ (.ptr 1 0) (.ptr 1 0)
     simp [conv]
    ·show conv _ _ _ (.ptr 12001 0) (.ptr 2 0)
     simp [conv]
   ·exact ⟨⟨_,rfl,fun h=>h,Qg _ _ _ _ (QB _ _)⟩,⟨_,rfl,fun h=>h,Vk _ _ _ _ _ _ _ _ _⟩,⟨_,rfl,fun h=>h,Qg _ _ _ _ (aeE _ _ _ _ _ _ _ _ _ trivial trivial trivial)⟩,trivial⟩
 clear n1 n2 n3 n4
 simp only [enS,agk,asv,stL]
 refine wQ (ι:=Unit) (fun _=>True) (fun _=>enS l d5 nm least (least + q5) su ow fa amD amD amD) (fun K' hK'=>?_) (fun _ _=>?_)
 ·repeat' (first|(refine zsk ?_;intro K' hK)|(refine zrg ?_;intro K' hK)|refine zsp ?_|(refine zsc ?_ ?_<;>intro hc<;>first|exact znh|try simp only [znz] at hc)|simp (maxSteps:=1000000) only [go_sem,Jj,hw5,hw6]|(refine hK _ ?_;clear hK K')|apply zan|(apply Xz;(focus exact rfl);(focus first|exact n5|exact (z0 _ _ _ zsd zsd zsd zsd)|exact (z1 _ _ zsd zsd)|exact (z2 _ _ _ zsd zsd zsd zsd)|exact (z3 _ _ _ zsd zsd));(focus exact rfl);(focus exact rfl))|(apply YV;(focus exact rfl);(focus exact zrd);(focus exact zrd);(focus first|exact n5|exact (z0 _ _ _ zsd zsd zsd zsd)|exact (z1 _ _ zsd zsd)|exact (z2 _ _ _ zsd zsd zsd zsd)|exact (z3 _ _ _ zsd zsd));(focus exact rfl);(focus exact rfl);(focus exact zrd))|exact zsq|fail)
  all_goals
   refine hK' _ () trivial (VJ [0,1,2] none (fun p hp=>?_) ?_ (by simp) (by rw [hm];rfl))
   ·simp only [List.mem_cons,List.not_mem_nil,or_false] at hp
    rcases hp with rfl|rfl|rfl|rfl
    ·show conv _ _ _ (.ptr 0 0) (.ptr 0 0)
     simp [conv]
    ·exact Qc _ _ _ (V.str nm) trivial
    ·show conv _ _ _ (.ptr 1 0) (.ptr 1 0)
     simp [conv]
    ·show conv _ _ _ (.ptr 2 0) (.ptr 2 0)
     simp [conv]
   ·exact ⟨⟨_,rfl,fun h=>h,Qg _ _ _ _ (QB _ _)⟩,⟨_,rfl,fun h=>h,Vk _ _ _ _ _ _ _ _ _⟩,⟨_,rfl,fun h=>h,Qg _ _ _ _ (aeE _ _ _ _ _ _ _ _ _ trivial trivial trivial)⟩,trivial⟩
 clear n5
 have n6:=z3 l d5 3 hl k5
 have k6:=Je (l:=l) (k:=d5) (n:=3) k5
 have hmo:aig l d5 least (least + q5) = (let t:=Jx l d5 3;if t.1 > 0 then ((1,(ofD l t.2 [3,4,2]).1),(ofD l t.2 [3,4,2]).2) else ((least,least + q5),t.2)):=rfl
 generalize Jx l d5 3 = w6 at *
 obtain ⟨q6,d6⟩:=w6
 simp only at k6 hmo
 have hMK:(aig l d5 least (least + q5)).2≤l.length:=by
  rw [hmo]
  split
  ·exact WD k6
  ·exact k6
 refine wQ (ι:=Unit) (fun _=>True) (fun _=>enS l (aig l d5 least (least + q5)).2 nm (aig l d5 least (least + q5)).1.1 (aig l d5 least (least + q5)).1.2 su ow fa amD amD amD) (fun K' hK'=>?_) (fun _ _=>?_)
 ·simp only [enS,agk,asv,stL,hmo] at hK' ⊢
  by_cases hq:q6 > 0
  ·have e1:decide (q6 > 0) = true:=decide_eq_true hq
   have n7:=z0 l d6 [3,4,2] hl k6 (by simp) (by simp)
   simp only [if_pos hq] at hK'
   generalize ofD l d6 [3,4,2] = w7 at *
   obtain ⟨q7,d7⟩:=w7
   simp only [Jj,List.map_cons,List.map_nil] at n6 n7
   repeat' (first|(refine zsk ?_;intro K' hK)|(refine zrg ?_;intro K' hK)|refine zsp ?_|(refine zsc ?_ ?_<;>intro hc<;>first|exact znh|try simp only [znz] at hc)|simp (maxSteps:=1000000) only [go_sem,Jj,e1]|(refine hK _ ?_;clear hK K')|apply zan|(apply Xz;(focus exact rfl);(focus first|exact n6|exact n7|exact (z0 _ _ _ zsd zsd zsd zsd)|exact (z1 _ _ zsd zsd)|exact (z2 _ _ _ zsd zsd zsd zsd)|exact (z3 _ _ _ zsd zsd));(focus exact rfl);(focus exact rfl))|(apply YV;(focus exact rfl);(focus exact zrd);(focus exact zrd);(focus first|exact n6|exact n7|exact (z0 _ _ _ zsd zsd zsd zsd)|exact (z1 _ _ zsd zsd)|exact (z2 _ _ _ zsd zsd zsd zsd)|exact (z3 _ _ _ zsd zsd));(focus exact rfl);(focus exact rfl);(focus exact zrd))|exact zsq|fail)
   all_goals
    refine hK' _ () trivial (VJ [0,1,2] none (fun p hp=>?_) ?_ (by simp) (by rw [hm];rfl))
    ·simp only [List.mem_cons,List.not_mem_nil,or_false] at hp
     rcases hp with rfl|rfl|rfl|rfl
     ·show conv _ _ _ (.ptr 0 0) (.ptr 0 0)
      simp [conv]
     ·exact Qc _ _ _ (V.str nm) trivial
     ·show conv _ _ _ (.ptr 1 0) (.ptr 1 0)
      simp [conv]
     ·show conv _ _ _ (.ptr 2 0) (.ptr 2 0)
      simp [conv]
    ·exact ⟨⟨_,rfl,fun h=>h,Qg _ _ _ _ (QB _ _)⟩,⟨_,rfl,fun h=>h,Vk _ _ _ _ _ _ _ _ _⟩,⟨_,rfl,fun h=>h,Qg _ _ _ _ (aeE _ _ _ _ _ _ _ _ _ trivial trivial trivial)⟩,trivial⟩
  ·have e1:decide (q6 > 0) = false:=decide_eq_false hq
   simp only [if_neg hq] at hK'
   simp only [Jj] at n6
   repeat' (first|(refine zsk ?_;intro K' hK)|(refine zrg ?_;intro K' hK)|refine zsp ?_|(refine zsc ?_ ?_<;>intro hc<;>first|exact znh|try simp only [znz] at hc)|simp (maxSteps:=1000000) only [go_sem,Jj,e1]|(refine hK _ ?_;clear hK K')|apply zan|(apply Xz;(focus exact rfl);(focus first|exact n6|exact (z0 _ _ _ zsd zsd zsd zsd)|exact (z1 _ _ zsd zsd)|exact (z2 _ _ _ zsd zsd zsd zsd)|exact (z3 _ _ _ zsd zsd));(focus exact rfl);(focus exact rfl))|(apply YV;(focus exact rfl);(focus exact zrd);(focus exact zrd);(focus first|exact n6|exact (z0 _ _ _ zsd zsd zsd zsd)|exact (z1 _ _ zsd zsd)|exact (z2 _ _ _ zsd zsd zsd zsd)|exact (z3 _ _ _ zsd zsd));(focus exact rfl);(focus exact rfl);(focus exact zrd))|exact zsq|fail)
   all_goals
    refine hK' _ () trivial (VJ [0,1,2] none (fun p hp=>?_) ?_ (by simp) (by rw [hm];rfl))
    ·simp only [List.mem_cons,List.not_mem_nil,or_false] at hp
     rcases hp with rfl|rfl|rfl|rfl
     ·show conv _ _ _ (.ptr 0 0) (.ptr 0 0)
      simp [conv]
     ·exact Qc _ _ _ (V.str nm) trivial
     ·show conv _ _ _ (.ptr 1 0) (.ptr 1 0)
      simp [conv]
     ·show conv _ _ _ (.ptr 2 0) (.ptr 2 0)
      simp [conv]
    ·exact ⟨⟨_,rfl,fun h=>h,Qg _ _ _ _ (QB _ _)⟩,⟨_,rfl,fun h=>h,Vk _ _ _ _ _ _ _ _ _⟩,⟨_,rfl,fun h=>h,Qg _ _ _ _ (aeE _ _ _ _ _ _ _ _ _ trivial trivial trivial)⟩,trivial⟩
 clear n6
 generalize aig l d5 least (least + q5) = w7 at *
 obtain ⟨⟨l2,m2⟩,d7⟩:=w7
 simp only at hMK ⊢
 have n8:=z0 l d7 [1,2,1,3,0] hl hMK (by simp) (by simp)
 have k8:=WD (l:=l) (k:=d7) (xs:=[1,2,1,3,0]) hMK
 have m8:=afI (l:=l) (k:=d7) (xs:=[1,2,1,3,0]) (by simp) (by simp)
 generalize ofD l d7 [1,2,1,3,0] = w8 at *
 obtain ⟨c8,d8⟩:=w8
 simp only at k8 m8 ⊢
 obtain ⟨c8,rfl⟩:∃ j:Nat,c8 = (j:Int):=⟨c8.toNat,by simp only [List.mem_cons,List.not_mem_nil,or_false] at m8;omega⟩
 have hc3:c8≤3:=by simp only [List.mem_cons,List.not_mem_nil,or_false] at m8;omega
 simp only [Int.toNat_natCast]
 have hgk:(W0 l nm c8 d8 []).2≤l.length∧(W0 l nm c8 d8 []).1.length≤3:=by
  obtain ⟨g1,g2⟩:=afM (l:=l) (nm:=nm) c8 d8 [] k8
  exact ⟨g1,by rw [g2,List.length_nil];omega⟩
 generalize hG:W0 l nm c8 d8 [] = g at *
 refine wQ (ι:=Unit) (fun _=>True) (fun _=>enS l g.2 nm l2 m2 su ow fa (.sl 4 (g.1.map QI.v)) amD amD) (fun K' hK'=>?_) (fun _ _=>?_)
 ·simp only [enS,agk,asv,stL]
  refine ad7 2 5 4 rfl rfl ?_
  simp only [Jj,List.map_cons,List.map_nil] at n8
  repeat' (first|(refine zsk ?_;intro K' hK)|(refine zrg ?_;intro K' hK)|refine zsp ?_|(refine zsc ?_ ?_<;>intro hc<;>first|exact znh|try simp only [znz] at hc)|simp (maxSteps:=1000000) only [go_sem,Jj]|(refine hK _ ?_;clear hK K')|apply zan|(apply Xz;(focus exact rfl);(focus first|exact n8|exact (z0 _ _ _ zsd zsd zsd zsd)|exact (z1 _ _ zsd zsd)|exact (z2 _ _ _ zsd zsd zsd zsd)|exact (z3 _ _ _ zsd zsd));(focus exact rfl);(focus exact rfl))|(apply YV;(focus exact rfl);(focus exact zrd);(focus exact zrd);(focus first|exact n8|exact (z0 _ _ _ zsd zsd zsd zsd)|exact (z1 _ _ zsd zsd)|exact (z2 _ _ _ zsd zsd zsd zsd)|exact (z3 _ _ _ zsd zsd));(focus exact rfl);(focus exact rfl);(focus exact zrd))|exact zsq|fail)
  refine jt (ι:=Nat×Nat×List QI) (fun q=>W0 l nm q.1 q.2.1 q.2.2 = g∧q.2.1≤l.length∧q.2.2.length + q.1≤3) (fun q=>enL l q.2.1 nm l2 m2 su ow fa q.1 q.2.2) (fun q=>q.1) (c8,d8,[]) ⟨hG,k8,by simpa using hc3⟩ ?_ fun q hq K2 hL=>?_
  ·refine VJ [0,1,2,3] none (fun p hp=>?_) ?_ (by simp) (by rw [hm];rfl)
   ·simp only [List.mem_cons,List.not_mem_nil,or_false] at hp
    rcases hp with rfl|rfl|rfl|rfl|rfl
    ·show conv _ _ _ (.ptr 0 0) (.ptr 0 0)
     simp [conv]
    ·exact Qc _ _ _ (V.str nm) trivial
    ·show conv _ _ _ (.ptr 1 0) (.ptr 1 0)
     simp [conv]
    ·show conv _ _ _ (.ptr 2 0) (.ptr 2 0)
     simp [conv]
    ·exact Qc _ _ _ (V.int c8) trivial
   ·exact ⟨⟨_,rfl,fun h=>h,Qg _ _ _ _ (QB _ _)⟩,⟨_,rfl,fun h=>h,Vk _ _ _ _ _ _ _ _ _⟩,⟨_,rfl,fun h=>h,aiL _ _ _ _ _ _ (by simp [conv])⟩,⟨_,rfl,fun h=>h,rfl,rfl⟩,trivial⟩
  obtain ⟨m,d,xs⟩:=q
  simp only at hq hL ⊢
  obtain ⟨q1,q2,q3⟩:=hq
  have htx:List.take xs.length (xs.map QI.v) = xs.map QI.v:=List.take_of_length_le (by simp)
  have hlx:(xs.map QI.v).length = xs.length:=List.length_map _
  rcases m with _|m
  ·rw [W0] at q1
   subst q1
   have e1:decide (((0:Nat):Int) > 0) = false:=rfl
   simp only [enL,agk,asv,stL]
   repeat' (first|(refine zsk ?_;intro K' hK)|(refine zrg ?_;intro K' hK)|refine zsp ?_|(refine zsc ?_ ?_<;>intro hc<;>first|exact znh|try simp only [znz] at hc)|simp (maxSteps:=1000000) only [go_sem,e1]|(refine hK _ ?_;clear hK K')|apply zan|(apply Xz;(focus exact rfl);(focus first|exact (z0 _ _ _ zsd zsd zsd zsd)|exact (z1 _ _ zsd zsd)|exact (z2 _ _ _ zsd zsd zsd zsd)|exact (z3 _ _ _ zsd zsd));(focus exact rfl);(focus exact rfl))|(apply YV;(focus exact rfl);(focus exact zrd);(focus exact zrd);(focus first|exact (z0 _ _ _ zsd zsd zsd zsd)|exact (z1 _ _ zsd zsd)|exact (z2 _ _ _ zsd zsd zsd zsd)|exact (z3 _ _ _ zsd zsd));(focus exact rfl);(focus exact rfl);(focus exact zrd))|exact zsq|fail)
   all_goals
    refine hK' _ () trivial (VJ [0,1,2] none (fun p hp=>?_) ?_ (by simp) (by rw [hm];rfl))
    ·simp only [List.mem_cons,List.not_mem_nil,or_false] at hp
     rcases hp with rfl|rfl|rfl|rfl
     ·show conv _ _ _ (.ptr 0 0) (.ptr 0 0)
      simp [conv]
     ·exact Qc _ _ _ (V.str nm) trivial
     ·show conv _ _ _ (.ptr 1 0) (.ptr 1 0)
      simp [conv]
     ·show conv _ _ _ (.ptr 2 0) (.ptr 2 0)
      simp [conv]
    ·exact ⟨⟨_,rfl,fun h=>h,Qg _ _ _ _ (QB _ _)⟩,⟨_,rfl,fun h=>h,Vk _ _ _ _ _ _ _ _ _⟩,⟨_,rfl,fun h=>h,aiL _ _ _ _ _ _ (by
      rw [al8]
      exact ⟨trivial,by simp,.inl ⟨true,_,rfl,by rw [List.drop_zero,htx]⟩⟩)⟩,trivial⟩
  ·have e1:decide (((m + 1:Nat):Int) > 0) = true:=decide_eq_true (by omega)
   have ew:IntKind.i64.wrap (((m + 1:Nat):Int) - 1) = (m:Int):=by rw [Yv (by omega) (by omega)];omega
   rw [W0] at q1
   have hk9:arU l d = (let y:=aum l d;let t:=Jx l y.2 3;if t.1 > 0 then (((ofD l t.2 [5,7]).1,(ada l (ofD l t.2 [5,7]).2 (ofD l t.2 [5,7]).1).1),(ada l (ofD l t.2 [5,7]).2 (ofD l t.2 [5,7]).1).2) else (y.1,t.2)):=rfl
   have hid:ag3 l d nm = (let z:=arU l d;let i:=Jx l z.2 20;let o:=Jx l i.2 9;let c:=if o.1 == 8 then (([]:List Qw),o.2) else j9 l o.2 nm z.1.1 z.1.2 (100 + i.1);(⟨z.1.1,z.1.2,100 + i.1,c.1⟩,c.2)):=rfl
   have n1:=z4 l d hl q2
   have kk1:=atr (l:=l) (k:=d) q2
   have a1:=aqH (l:=l) (k:=d)
   generalize aum l d = y1 at *
   obtain ⟨⟨ka,kb⟩,f1⟩:=y1
   simp only at kk1 a1 hk9
   have n2:=z3 l f1 3 hl kk1
   have kk2:=Je (l:=l) (k:=f1) (n:=3) kk1
   generalize Jx l f1 3 = y2 at *
   obtain ⟨t2,f2⟩:=y2
   simp only at kk2 hk9
   have n3:=z0 l f2 [5,7] hl kk2 (by simp) (by simp)
   have kk3:=WD (l:=l) (k:=f2) (xs:=[5,7]) kk2
   have a3:=KZ (l:=l) (k:=f2) (xs:=[5,7]) (by simp) (by simp) (by decide)
   generalize ofD l f2 [5,7] = y3 at *
   obtain ⟨t3,f3⟩:=y3
   simp only at kk3 hk9 a3
   have n4:=z5 l f3 t3 hl kk3
   have kk4:=aoj (l:=l) (k:=f3) (a:=t3) kk3
   have a4:=akh (l:=l) (k:=f3) (a:=t3)
   generalize ada l f3 t3 = y4 at *
   obtain ⟨t4,f4⟩:=y4
   simp only at kk4 hk9 a4
   simp only [enL,agk,asv,stL]
   by_cases ht:t2 > 0
   ·have et:decide (t2 > 0) = true:=decide_eq_true ht
    rw [if_pos ht] at hk9
    have n5:=z3 l f4 20 hl kk4
    have kk5:=Je (l:=l) (k:=f4) (n:=20) kk4
    have r5':=JT (l:=l) (k:=f4) (n:=20) (by omega) (by omega)
    rw [hk9] at hid
    simp only at hid
    generalize Jx l f4 20 = y5 at *
    obtain ⟨t5,f5⟩:=y5
    simp only at kk5 r5' hid
    have w5:IntKind.i64.wrap (100 + t5) = 100 + t5:=Yv (by omega) (by omega)
    have n6:=z2 l f5 9 hl kk5 (by omega) (by omega)
    have kk6:=Je (l:=l) (k:=f5) (n:=9) kk5
    generalize Jx l f5 9 = y6 at *
    obtain ⟨t6,f6⟩:=y6
    simp only at kk6 hid
    have n7:=z6 l f6 nm t3 t4 (100 + t5) hl kk6 h2 (by unfold I60;omega) (by unfold I60;omega) (by unfold I60;omega)
    have kk7:=ahJ (l:=l) (k:=f6) (nm:=nm) (a:=t3) (b:=t4) (id:=100 + t5) kk6
    generalize j9 l f6 nm t3 t4 (100 + t5) = y7 at *
    obtain ⟨ch,f7⟩:=y7
    simp only at kk7 hid
    rw [show (9:Int) - 1 = 8 from rfl] at n6
    cases ho:(t6 == 8)
    ·rw [ho] at n6 hid
     simp only [Bool.false_eq_true,if_false] at hid
     rw [hid] at q1
     simp only [Jj,List.map_cons,List.map_nil] at n1 n2 n3 n4 n5 n6 n7
     repeat' (first|(refine zsk ?_;intro K' hK)|(refine zrg ?_;intro K' hK)|refine zsp ?_|(refine zsc ?_ ?_<;>intro hc<;>first|exact znh|try simp only [znz] at hc)|simp (maxSteps:=1000000) only [go_sem,Jj,e1,et,ew,w5,htx,hlx]|(refine hK _ ?_;clear hK K')|apply zan|(apply Xz;(focus exact rfl);(focus first|exact n1|exact n2|exact n3|exact n4|exact n5|exact n6|exact n7|exact (z0 _ _ _ zsd zsd zsd zsd)|exact (z1 _ _ zsd zsd)|exact (z2 _ _ _ zsd zsd zsd zsd)|exact (z3 _ _ _ zsd zsd));(focus exact rfl);(focus exact rfl))|(apply YV;(focus exact rfl);(focus exact zrd);(focus exact zrd);(focus first|exact n1|exact n2|exact n3|exact n4|exact n5|exact n6|exact n7|exact (z0 _ _ _ zsd zsd zsd zsd)|exact (z1 _ _ zsd zsd)|exact (z2 _ _ _ zsd zsd zsd zsd)|exact (z3 _ _ _ zsd zsd));(focus exact rfl);(focus exact rfl);(focus exact zrd))|exact zsq|fail)
     all_goals
      refine hL _ (m,f7,xs++[⟨t3,t4,100 + t5,ch⟩]) ⟨q1,kk7,by simp only [List.length_append,List.length_singleton];omega⟩ (Nat.lt_succ_self _) (VJ [0,1,2,43004] none (fun p hp=>?_) ?_ (by simp) (by rw [hm];rfl))
      ·simp only [List.mem_cons,List.not_mem_nil,or_false] at hp
       rcases hp with rfl|rfl|rfl|rfl|rfl
       ·show conv _ _ _ (.ptr 0 0) (.ptr 0 0)
        simp [conv]
       ·exact Qc _ _ _ (V.str nm) trivial
       ·show conv _ _ _ (.ptr 1 0) (.ptr 1 0)
        simp [conv]
       ·show conv _ _ _ (.ptr 2 0) (.ptr 2 0)
        simp [conv]
       ·exact Qc _ _ _ (V.int m) trivial
      ·refine ⟨⟨_,rfl,fun h=>h,Qg _ _ _ _ (QB _ _)⟩,⟨_,rfl,fun h=>h,Vk _ _ _ _ _ _ _ _ _⟩,⟨_,rfl,fun h=>h,aiL _ _ _ _ _ _ ?_⟩,⟨_,rfl,fun h=>h,rfl,?_,wt _⟩,trivial⟩
       ·show conv _ _ _ (.hd 43004 0 (xs.length + 1)) (.hd 3 0 (xs++[_]).length)
        rw [List.length_append,List.length_singleton]
        simp [conv]
       ·rw [List.map_append]
        refine adz ?_ xs
        exact ⟨Qg _ _ _ _ ⟨trivial,trivial,trivial,trivial,trivial⟩,trivial⟩
    ·rw [ho] at n6 hid
     simp only [if_true] at hid
     rw [hid] at q1
     simp only [Jj,List.map_cons,List.map_nil] at n1 n2 n3 n4 n5 n6
     repeat' (first|(refine zsk ?_;intro K' hK)|(refine zrg ?_;intro K' hK)|refine zsp ?_|(refine zsc ?_ ?_<;>intro hc<;>first|exact znh|try simp only [znz] at hc)|simp (maxSteps:=1000000) only [go_sem,Jj,e1,et,ew,w5,htx,hlx]|(refine hK _ ?_;clear hK K')|apply zan|(apply Xz;(focus exact rfl);(focus first|exact n1|exact n2|exact n3|exact n4|exact n5|exact n6|exact (z0 _ _ _ zsd zsd zsd zsd)|exact (z1 _ _ zsd zsd)|exact (z2 _ _ _ zsd zsd zsd zsd)|exact (z3 _ _ _ zsd zsd));(focus exact rfl);(focus exact rfl))|(apply YV;(focus exact rfl);(focus exact zrd);(focus exact zrd);(focus first|exact n1|exact n2|exact n3|exact n4|exact n5|exact n6|exact (z0 _ _ _ zsd zsd zsd zsd)|exact (z1 _ _ zsd zsd)|exact (z2 _ _ _ zsd zsd zsd zsd)|exact (z3 _ _ _ zsd zsd));(focus exact rfl);(focus exact rfl);(focus exact zrd))|exact zsq|fail)
     all_goals
      refine hL _ (m,f6,xs++[⟨t3,t4,100 + t5,[]⟩]) ⟨q1,kk6,by simp only [List.length_append,List.length_singleton];omega⟩ (Nat.lt_succ_self _) (VJ [0,1,2,36004] none (fun p hp=>?_) ?_ (by simp) (by rw [hm];rfl))
      ·simp only [List.mem_cons,List.not_mem_nil,or_false] at hp
       rcases hp with rfl|rfl|rfl|rfl|rfl
       ·show conv _ _ _ (.ptr 0 0) (.ptr 0 0)
        simp [conv]
       ·exact Qc _ _ _ (V.str nm) trivial
       ·show conv _ _ _ (.ptr 1 0) (.ptr 1 0)
        simp [conv]
       ·show conv _ _ _ (.ptr 2 0) (.ptr 2 0)
        simp [conv]
       ·exact Qc _ _ _ (V.int m) trivial
      ·refine ⟨⟨_,rfl,fun h=>h,Qg _ _ _ _ (QB _ _)⟩,⟨_,rfl,fun h=>h,Vk _ _ _ _ _ _ _ _ _⟩,⟨_,rfl,fun h=>h,aiL _ _ _ _ _ _ ?_⟩,⟨_,rfl,fun h=>h,rfl,?_,wt _⟩,trivial⟩
       ·show conv _ _ _ (.hd 36004 0 (xs.length + 1)) (.hd 3 0 (xs++[_]).length)
        rw [List.length_append,List.length_singleton]
        simp [conv]
       ·rw [List.map_append]
        refine adz ?_ xs
        exact ⟨atE _ _ _,trivial⟩
   ·have et:decide (t2 > 0) = false:=decide_eq_false ht
    rw [if_neg ht] at hk9
    have n5:=z3 l f2 20 hl kk2
    have kk5:=Je (l:=l) (k:=f2) (n:=20) kk2
    have r5':=JT (l:=l) (k:=f2) (n:=20) (by omega) (by omega)
    rw [hk9] at hid
    simp only at hid
    generalize Jx l f2 20 = y5 at *
    obtain ⟨t5,f5⟩:=y5
    simp only at kk5 r5' hid
    have w5:IntKind.i64.wrap (100 + t5) = 100 + t5:=Yv (by omega) (by omega)
    have n6:=z2 l f5 9 hl kk5 (by omega) (by omega)
    have kk6:=Je (l:=l) (k:=f5) (n:=9) kk5
    generalize Jx l f5 9 = y6 at *
    obtain ⟨t6,f6⟩:=y6
    simp only at kk6 hid
    have n7:=z6 l f6 nm ka kb (100 + t5) hl kk6 h2 (by unfold I60;omega) (by unfold I60;omega) (by unfold I60;omega)
    have kk7:=ahJ (l:=l) (k:=f6) (nm:=nm) (a:=ka) (b:=kb) (id:=100 + t5) kk6
    generalize j9 l f6 nm ka kb (100 + t5) = y7 at *
    obtain ⟨ch,f7⟩:=y7
    simp only at kk7 hid
    rw [show (9:Int) - 1 = 8 from rfl] at n6
    cases ho:(t6 == 8)
    ·rw [ho] at n6 hid
     simp only [Bool.false_eq_true,if_false] at hid
     rw [hid] at q1
     simp only [Jj,List.map_cons,List.map_nil] at n1 n2 n3 n4 n5 n6 n7
     repeat' (first|(refine zsk ?_;intro K' hK)|(refine zrg ?_;intro K' hK)|refine zsp ?_|(refine zsc ?_ ?_<;>intro hc<;>first|exact znh|try simp only [znz] at hc)|simp (maxSteps:=1000000) only [go_sem,Jj,e1,et,ew,w5,htx,hlx]|(refine hK _ ?_;clear hK K')|apply zan|(apply Xz;(focus exact rfl);(focus first|exact n1|exact n2|exact n5|exact n6|exact n7|exact (z0 _ _ _ zsd zsd zsd zsd)|exact (z1 _ _ zsd zsd)|exact (z2 _ _ _ zsd zsd zsd zsd)|exact (z3 _ _ _ zsd zsd));(focus exact rfl);(focus exact rfl))|(apply YV;(focus exact rfl);(focus exact zrd);(focus exact zrd);(focus first|exact n1|exact n2|exact n5|exact n6|exact n7|exact (z0 _ _ _ zsd zsd zsd zsd)|exact (z1 _ _ zsd zsd)|exact (z2 _ _ _ zsd zsd zsd zsd)|exact (z3 _ _ _ zsd zsd));(focus exact rfl);(focus exact rfl);(focus exact zrd))|exact zsq|fail)
     all_goals
      refine hL _ (m,f7,xs++[⟨ka,kb,100 + t5,ch⟩]) ⟨q1,kk7,by simp only [List.length_append,List.length_singleton];omega⟩ (Nat.lt_succ_self _) (VJ [0,1,2,32004] none (fun p hp=>?_) ?_ (by simp) (by rw [hm];rfl))
      ·simp only [List.mem_cons,List.not_mem_nil,or_false] at hp
       rcases hp with rfl|rfl|rfl|rfl|rfl
       ·show conv _ _ _ (.ptr 0 0) (.ptr 0 0)
        simp [conv]
       ·exact Qc _ _ _ (V.str nm) trivial
       ·show conv _ _ _ (.ptr 1 0) (.ptr 1 0)
        simp [conv]
       ·show conv _ _ _ (.ptr 2 0) (.ptr 2 0)
        simp [conv]
       ·exact Qc _ _ _ (V.int m) trivial
      ·refine ⟨⟨_,rfl,fun h=>h,Qg _ _ _ _ (QB _ _)⟩,⟨_,rfl,fun h=>h,Vk _ _ _ _ _ _ _ _ _⟩,⟨_,rfl,fun h=>h,aiL _ _ _ _ _ _ ?_⟩,⟨_,rfl,fun h=>h,rfl,?_,wt _⟩,trivial⟩
       ·show conv _ _ _ (.hd 32004 0 (xs.length + 1)) (.hd 3 0 (xs++[_]).length)
        rw [List.length_append,List.length_singleton]
        simp [conv]
       ·rw [List.map_append]
        refine adz ?_ xs
        exact ⟨Qg _ _ _ _ ⟨trivial,trivial,trivial,trivial,trivial⟩,trivial⟩
    ·rw [ho] at n6 hid
     simp only [if_true] at hid
     rw [hid] at q1
     simp only [Jj,List.map_cons,List.map_nil] at n1 n2 n3 n4 n5 n6
     repeat' (first|(refine zsk ?_;intro K' hK)|(refine zrg ?_;intro K' hK)|refine zsp ?_|(refine zsc ?_ ?_<;>intro hc<;>first|exact znh|try simp only [znz] at hc)|simp (maxSteps:=1000000) only [go_sem,Jj,e1,et,ew,w5,htx,hlx]|(refine hK _ ?_;clear hK K')|apply zan|(apply Xz;(focus exact rfl);(focus first|exact n1|exact n2|exact n5|exact n6|exact (z0 _ _ _ zsd zsd zsd zsd)|exact (z1 _ _ zsd zsd)|exact (z2 _ _ _ zsd zsd zsd zsd)|exact (z3 _ _ _ zsd zsd));(focus exact rfl);(focus exact rfl))|(apply YV;(focus exact rfl);(focus exact zrd);(focus exact zrd);(focus first|exact n1|exact n2|exact n5|exact n6|exact (z0 _ _ _ zsd zsd zsd zsd)|exact (z1 _ _ zsd zsd)|exact (z2 _ _ _ zsd zsd zsd zsd)|exact (z3 _ _ _ zsd zsd));(focus exact rfl);(focus exact rfl);(focus exact zrd))|exact zsq|fail)
     all_goals
      refine hL _ (m,f6,xs++[⟨ka,kb,100 + t5,[]⟩]) ⟨q1,kk6,by simp only [List.length_append,List.length_singleton];omega⟩ (Nat.lt_succ_self _) (VJ [0,1,2,25004] none (fun p hp=>?_) ?_ (by simp) (by rw [hm];rfl))
      ·simp only [List.mem_cons,List.not_mem_nil,or_false] at hp
       rcases hp with rfl|rfl|rfl|rfl|rfl
       ·show conv _ _ _ (.ptr 0 0) (.ptr 0 0)
        simp [conv]
       ·exact Qc _ _ _ (V.str nm) trivial
       ·show conv _ _ _ (.ptr 1 0) (.ptr 1 0)
        simp [conv]
       ·show conv _ _ _ (.ptr 2 0) (.ptr 2 0)
        simp [conv]
       ·exact Qc _ _ _ (V.int m) trivial
      ·refine ⟨⟨_,rfl,fun h=>h,Qg _ _ _ _ (QB _ _)⟩,⟨_,rfl,fun h=>h,Vk _ _ _ _ _ _ _ _ _⟩,⟨_,rfl,fun h=>h,aiL _ _ _ _ _ _ ?_⟩,⟨_,rfl,fun h=>h,rfl,?_,wt _⟩,trivial⟩
       ·show conv _ _ _ (.hd 25004 0 (xs.length + 1)) (.hd 3 0 (xs++[_]).length)
        rw [List.length_append,List.length_singleton]
        simp [conv]
       ·rw [List.map_append]
        refine adz ?_ xs
        exact ⟨atE _ _ _,trivial⟩
 obtain ⟨xs,d9⟩:=g
 simp only at hgk ⊢
 have nA:=z3 l d9 5 hl hgk.1
 have kA:=Je (l:=l) (k:=d9) (n:=5) hgk.1
 have rA':=JT (l:=l) (k:=d9) (n:=5) (by omega) (by omega)
 generalize Jx l d9 5 = yA at *
 obtain ⟨tA,dA⟩:=yA
 simp only at kA rA' ⊢
 have nB:=z3 l dA 3 hl kA
 have kB:=Je (l:=l) (k:=dA) (n:=3) kA
 have rB':=JT (l:=l) (k:=dA) (n:=3) (by omega) (by omega)
 generalize Jx l dA 3 = yB at *
 obtain ⟨tB,dB⟩:=yB
 simp only at kB rB' ⊢
 simp only [Jj] at nA nB
 refine wQ (ι:=Unit) (fun _=>True) (fun _=>enS l dA nm l2 m2 su ow fa (.sl 4 (xs.map QI.v)) (.sl 1 ((asr tA).map V.int)) amD) (fun K' hK'=>?_) (fun _ _=>?_)
 ·simp only [enS,agk,asv,stL]
  have h5:tA = 0∨tA = 1∨tA = 2∨tA = 3∨tA = 4:=by omega
  rcases h5 with rfl|rfl|rfl|rfl|rfl
  all_goals
   repeat' (first|(refine zsk ?_;intro K' hK)|(refine zrg ?_;intro K' hK)|refine zsp ?_|(refine zsc ?_ ?_<;>intro hc<;>first|exact znh|try simp only [znz] at hc)|simp (maxSteps:=1000000) only [go_sem,Jj]|(refine hK _ ?_;clear hK K')|apply zan|(apply Xz;(focus exact rfl);(focus first|exact nA|exact (z0 _ _ _ zsd zsd zsd zsd)|exact (z1 _ _ zsd zsd)|exact (z2 _ _ _ zsd zsd zsd zsd)|exact (z3 _ _ _ zsd zsd));(focus exact rfl);(focus exact rfl))|(apply YV;(focus exact rfl);(focus exact zrd);(focus exact zrd);(focus first|exact nA|exact (z0 _ _ _ zsd zsd zsd zsd)|exact (z1 _ _ zsd zsd)|exact (z2 _ _ _ zsd zsd zsd zsd)|exact (z3 _ _ _ zsd zsd));(focus exact rfl);(focus exact rfl);(focus exact zrd))|exact zsq|fail)
  all_goals
   refine hK' _ () trivial (VJ [0,1,2] none (fun p hp=>?_) ?_ (by simp) (by rw [hm];rfl))
   ·simp only [List.mem_cons,List.not_mem_nil,or_false] at hp
    rcases hp with rfl|rfl|rfl|rfl
    ·show conv _ _ _ (.ptr 0 0) (.ptr 0 0)
     simp [conv]
    ·exact Qc _ _ _ (V.str nm) trivial
    ·show conv _ _ _ (.ptr 1 0) (.ptr 1 0)
     simp [conv]
    ·show conv _ _ _ (.ptr 2 0) (.ptr 2 0)
     simp [conv]
   ·refine ⟨⟨_,rfl,fun h=>h,Qg _ _ _ _ (QB _ _)⟩,⟨_,rfl,fun h=>h,Vk _ _ _ _ _ _ _ _ _⟩,⟨_,rfl,fun h=>h,aqV _ _ _ _ _ _ (Qc _ _ _ _ trivial) ?_ (Qc _ _ _ _ trivial)⟩,trivial⟩
    first|exact axs rfl (by simp) rfl|exact axq
 refine wQ (ι:=Unit) (fun _=>True) (fun _=>enS l dB nm l2 m2 su ow fa (.sl 4 (xs.map QI.v)) (.sl 1 ((asr tA).map V.int)) (.sl 1 ((au0 tB).map V.int))) (fun K' hK'=>?_) (fun _ _=>?_)
 ·simp only [enS,agk,asv,stL]
  generalize asr tA = an at *
  have h5:tB = 0∨tB = 1∨tB = 2:=by omega
  rcases h5 with rfl|rfl|rfl
  all_goals
   repeat' (first|(refine zsk ?_;intro K' hK)|(refine zrg ?_;intro K' hK)|refine zsp ?_|(refine zsc ?_ ?_<;>intro hc<;>first|exact znh|try simp only [znz] at hc)|simp (maxSteps:=1000000) only [go_sem,Jj]|(refine hK _ ?_;clear hK K')|apply zan|(apply Xz;(focus exact rfl);(focus first|exact nB|exact (z0 _ _ _ zsd zsd zsd zsd)|exact (z1 _ _ zsd zsd)|exact (z2 _ _ _ zsd zsd zsd zsd)|exact (z3 _ _ _ zsd zsd));(focus exact rfl);(focus exact rfl))|(apply YV;(focus exact rfl);(focus exact zrd);(focus exact zrd);(focus first|exact nB|exact (z0 _ _ _ zsd zsd zsd zsd)|exact (z1 _ _ zsd zsd)|exact (z2 _ _ _ zsd zsd zsd zsd)|exact (z3 _ _ _ zsd zsd));(focus exact rfl);(focus exact rfl);(focus exact zrd))|exact zsq|fail)
  all_goals
   refine hK' _ () trivial (VJ [0,1,2] none (fun p hp=>?_) ?_ (by simp) (by rw [hm];rfl))
   ·simp only [List.mem_cons,List.not_mem_nil,or_false] at hp
    rcases hp with rfl|rfl|rfl|rfl
    ·show conv _ _ _ (.ptr 0 0) (.ptr 0 0)
     simp [conv]
    ·exact Qc _ _ _ (V.str nm) trivial
    ·show conv _ _ _ (.ptr 1 0) (.ptr 1 0)
     simp [conv]
    ·show conv _ _ _ (.ptr 2 0) (.ptr 2 0)
     simp [conv]
   ·exact ⟨⟨_,rfl,fun h=>h,Qg _ _ _ _ (QB _ _)⟩,⟨_,rfl,fun h=>h,Vk _ _ _ _ _ _ _ _ _⟩,⟨_,rfl,fun h=>h,aqV _ _ _ _ _ _ (Qc _ _ _ _ trivial) (Qc _ _ _ _ trivial) (axs rfl (by simp) rfl)⟩,trivial⟩
 simp only [enS,agk,asv,stL,QL.v,QL.cells]
 repeat' (first|(refine zsk ?_;intro K' hK)|(refine zrg ?_;intro K' hK)|refine zsp ?_|(refine zsc ?_ ?_<;>intro hc<;>first|exact znh|try simp only [znz] at hc)|simp (maxSteps:=1000000) only [go_sem,Jj]|(refine hK _ ?_;clear hK K')|apply zan|(apply Xz;(focus exact rfl);(focus first|exact (z0 _ _ _ zsd zsd zsd zsd)|exact (z1 _ _ zsd zsd)|exact (z2 _ _ _ zsd zsd zsd zsd)|exact (z3 _ _ _ zsd zsd));(focus exact rfl);(focus exact rfl))|(apply YV;(focus exact rfl);(focus exact zrd);(focus exact zrd);(focus first|exact (z0 _ _ _ zsd zsd zsd zsd)|exact (z1 _ _ zsd zsd)|exact (z2 _ _ _ zsd zsd zsd zsd)|exact (z3 _ _ _ zsd zsd));(focus exact rfl);(focus exact rfl);(focus exact zrd))|exact zsq|fail)
 all_goals first|(refine Xb _ rfl rfl zcd ?_;simp only [go_sem];done)
theorem atB:∀ l:List QI,ntL (l.map QI.v)
 | []=>trivial
 | x :: r=>⟨by simp [QI.v],atB r⟩
theorem akF (x:QI):x.v.closed:=by simp only [QI.v,QI.cells,V.closed,closedL,and_self]
theorem afL:∀ l:List QI,closedL (l.map QI.v)
 | []=>trivial
 | x :: r=>⟨akF x,afL r⟩
theorem aoK {o:Nat→Option Ob} {br:List Nat} {B:Option (List Nat)} {y z:V} (h:conv o br B y z):∀ l:List QI,Jd o br B (l.map QI.v++[y]) (l.map QI.v++[z])
 | []=>⟨h,trivial⟩
 | x :: r=>⟨Qc _ _ _ _ (akF x),aoK h r⟩
theorem atC {o:Nat→Option Ob} {br:List Nat} {l:List QI} {x:QI} {y:V} (h:conv o br none y x.v):Jd o br none (List.take (l.length + 1) (l.map QI.v++[y])) ((l++[x]).map QI.v):=by
 rw [List.take_of_length_le (by simp),List.map_append]
 exact aoK h l
def awm (l:List Int) (k:Nat) (e:QL):QL×Nat :=
 let t:=Jx l k 8
 if t.1 = 0 then ({ e with name:=(afA l t.2 [[],[97,32,98],[120]]).1 },(afA l t.2 [[],[97,32,98],[120]]).2)
 else if t.1 = 1 then ({ e with least:=(ofD l t.2 [0,5,e.most + 1]).1 },(ofD l t.2 [0,5,e.most + 1]).2)
 else if t.1 = 2 then ({ e with most:=(ofD l t.2 [5,0]).1 },(ofD l t.2 [5,0]).2)
 else if t.1 = 3 then ({ e with suites:=e.suites++[(ofD l t.2 [17,0,3,3]).1] },(ofD l t.2 [17,0,3,3]).2)
 else if t.1 = 4 then ({ e with anchors:=[2,1] },t.2)
 else if t.1 = 5 then ({ e with hashes:=[(ofD l t.2 [5,3,0]).1] },(ofD l t.2 [5,3,0]).2)
 else if t.1 = 6 then ({ e with idents:=e.idents++[⟨1,0,0,[]⟩] },t.2)
 else ({ e with idents:=e.idents++[⟨5,2048,7,(j9 l t.2 [97] 5 2048 8).1⟩] },(j9 l t.2 [97] 5 2048 8).2)
def aiQ (Qb J8 Qf X9:Nat):AC:=Qa [0,3,4] (.reg [xo 3 (.box true 9 (.t 1)),xo 4 (.alloc [.val vs0,.val vi0,.val vi0,.nil 1,.val (.bool false),.nil 4,.nil 1,.nil 1,.val (.bool false)])]) (Qa [3,4] (Qa [0,3,4,6] (.reg [mv 5 0,xo 6 (.call Qb [(.t 5),(.c (V.int 8))])]) (.block 0 (Qa [0,3,4,6,19] (.reg [bc 20 .eql 6 (V.int 0),mv 19 20]) (.cond (.t 19) (.reg [mv 21 0,xo 22 (.bslice 3 1 false [vs0] [(0,(.c (V.str []))),(1,(.c (V.str [97,32,98]))),(2,(.c (V.str [120])))]),cl 23 J8 [21,22],fa 24 0 3,xs 1 24 23]) (Qa [0,3,4,6,25] (.reg [bc 26 .eql 6 (V.int 1),mv 25 26]) (.cond (.t 25) (.reg [mv 27 0,fa 28 2 3,ld 29 1 28,bc 30 .add 29 (V.int 1),xo 31 (.bslice 3 1 false [vi0] [(0,(.c (V.int 0))),(1,(.c (V.int 5))),(2,(.t 30))]),cl 32 Qf [27,31],fa 33 1 3,xs 1 33 32]) (Qa [0,3,4,6,34] (.reg [bc 35 .eql 6 (V.int 2),mv 34 35]) (.cond (.t 34) (.reg [mv 36 0,xo 37 (.bslice 2 1 false [vi0] [(0,(.c (V.int 5))),(1,(.c (V.int 0)))]),cl 38 Qf [36,37],fa 39 2 3,xs 1 39 38]) (Qa [0,3,4,6,40] (.reg [bc 41 .eql 6 (V.int 3),mv 40 41]) (.cond (.t 40) (.reg [xo 42 (.bslice 0 1 false [vi0] []),fa 43 3 3,ld 44 1 43,xo 45 (.append 1 8 [vi0] (.t 42) (.t 44)),mv 46 0,xo 47 (.bslice 4 1 false [vi0] [(0,(.c (V.int 17))),(1,(.c (V.int 0))),(2,(.c (V.int 3))),(3,(.c (V.int 3)))]),cl 48 Qf [46,47],xo 49 (.bslice 1 1 false [vi0] [(0,(.t 48))]),xo 50 (.append 1 8 [vi0] (.t 45) (.t 49)),fa 51 3 3,xs 1 51 50]) (Qa [0,3,4,6,52] (.reg [bc 53 .eql 6 (V.int 4),mv 52 53]) (.cond (.t 52) (.reg [xo 54 (.bslice 2 1 false [vi0] [(0,(.c (V.int 2))),(1,(.c (V.int 1)))]),fa 55 6 3,xs 1 55 54]) (Qa [0,3,4,6,56] (.reg [bc 57 .eql 6 (V.int 5),mv 56 57]) (.cond (.t 56) (.reg [mv 58 0,xo 59 (.bslice 3 1 false [vi0] [(0,(.c (V.int 5))),(1,(.c (V.int 3))),(2,(.c (V.int 0)))]),cl 60 Qf [58,59],xo 61 (.bslice 1 1 false [vi0] [(0,(.t 60))]),fa 62 7 3,xs 1 62 61]) (Qa [0,3,4,63] (.reg [bc 64 .eql 6 (V.int 6),mv 63 64]) (.cond (.t 63) (.reg [xo 65 (.obslice 0 4 true [vi0,vi0,vi0,vn0] []),fa 66 5 3,ld 67 1 66,xo 68 (.append 4 48 [vi0,vi0,vi0,vn0] (.t 65) (.t 67)),xo 69 (.build [vi0,vi0] [(0,1,(.c (V.int 1)))]),xo 70 (.build [vi0,vi0,vi0,vn0] [(0,2,(.t 69))]),xo 71 (.obslice 1 4 true [vi0,vi0,vi0,vn0] [(0,(.t 70))]),xo 72 (.append 4 48 [vi0,vi0,vi0,vn0] (.t 68) (.t 71)),fa 73 5 3,xs 1 73 72]) (.reg [xo 7 (.obslice 0 4 true [vi0,vi0,vi0,vn0] []),fa 8 5 3,ld 9 1 8,xo 10 (.append 4 48 [vi0,vi0,vi0,vn0] (.t 7) (.t 9)),xo 11 (.build [vi0,vi0] [(0,1,(.c (V.int 5))),(1,1,(.c (V.int 2048)))]),mv 12 0,xo 13 (.build [vi0,vi0] [(0,1,(.c (V.int 5))),(1,1,(.c (V.int 2048)))]),xo 14 (.call X9 [(.t 12),(.c (V.str [97])),(.t 13),(.c (V.int 8))]),xo 15 (.build [vi0,vi0,vi0,vn0] [(0,2,(.t 11)),(2,1,(.c (V.int 7))),(3,1,(.t 14))]),xo 16 (.obslice 1 4 true [vi0,vi0,vi0,vn0] [(0,(.t 15))]),xo 17 (.append 4 48 [vi0,vi0,vi0,vn0] (.t 10) (.t 16)),fa 18 5 3,xs 1 18 17]))))))))))))))))) (Qa [4] (.reg [xo 74 (.load true 9 (.t 3)),xs 9 4 74]) .ret)) def r_make_Odd:List Jl:=[.cell 4 true 9]
def agB (Γ:Env) (f:Nat):Prop:=∀ (l:List Int) (k:Nat) (e:QL) (hl:l.length≤400) (hk:k≤l.length) (hm1:I60 e.most) (hs1:e.suites.length≤1000) (hi1:e.idents.length≤1000),EvD Γ f [e.v] (Jj l k) ((awm l k e).1.v) (Jj l (awm l k e).2)
attribute [local go_sem] QL.cells Jj in
theorem ap7 {Γ:Env} {f Qb J8 Qf X9:Nat} (h:Has Γ.P f 75 (aiQ Qb J8 Qf X9) r_make_Odd) (z0:JK Γ Qb) (z7:VG Γ J8) (z8:YU Γ Qf) (z9:xP Γ X9):agB Γ f:=by
 intro l k e hl hk hm1 hs1 hi1
 refine Y6 h zsi (amO _) zc3 zc3 fun C hC hm=>?_
 subst hC
 unfold aiQ
 have n1:=z0 l k 8 hl hk
 have k1:=Je (l:=l) (k:=k) (n:=8) hk
 have r1:=JT (l:=l) (k:=k) (n:=8) (by omega) (by omega)
 have ho:awm l k e = (let t:=Jx l k 8
  if t.1 = 0 then ({ e with name:=(afA l t.2 [[],[97,32,98],[120]]).1 },(afA l t.2 [[],[97,32,98],[120]]).2)
  else if t.1 = 1 then ({ e with least:=(ofD l t.2 [0,5,e.most + 1]).1 },(ofD l t.2 [0,5,e.most + 1]).2)
  else if t.1 = 2 then ({ e with most:=(ofD l t.2 [5,0]).1 },(ofD l t.2 [5,0]).2)
  else if t.1 = 3 then ({ e with suites:=e.suites++[(ofD l t.2 [17,0,3,3]).1] },(ofD l t.2 [17,0,3,3]).2)
  else if t.1 = 4 then ({ e with anchors:=[2,1] },t.2)
  else if t.1 = 5 then ({ e with hashes:=[(ofD l t.2 [5,3,0]).1] },(ofD l t.2 [5,3,0]).2)
  else if t.1 = 6 then ({ e with idents:=e.idents++[⟨1,0,0,[]⟩] },t.2)
  else ({ e with idents:=e.idents++[⟨5,2048,7,(j9 l t.2 [97] 5 2048 8).1⟩] },(j9 l t.2 [97] 5 2048 8).2)):=rfl
 rw [ho]
 clear ho
 generalize Jx l k 8 = w1 at *
 obtain ⟨t,d1⟩:=w1
 simp only at k1 r1 ⊢
 have hts:List.take e.suites.length (e.suites.map V.int) = e.suites.map V.int:=List.take_of_length_le (by simp)
 have hti:List.take e.idents.length (e.idents.map QI.v) = e.idents.map QI.v:=List.take_of_length_le (by simp)
 have hls:(e.suites.map V.int).length = e.suites.length:=List.length_map _
 have hli:(e.idents.map QI.v).length = e.idents.length:=List.length_map _
 have hci:(∀ y∈e.idents.map QI.v,y.cells.length = 4) = True:=eq_true fun y hy=>by
  obtain ⟨z,_,rfl⟩:=List.mem_map.1 hy
  rfl
 have hwm:IntKind.i64.wrap (e.most + 1) = e.most + 1:=Yv (by unfold I60 at hm1;omega) (by unfold I60 at hm1;omega)
 have h8:t = 0∨t = 1∨t = 2∨t = 3∨t = 4∨t = 5∨t = 6∨t = 7:=by omega
 have nw:=z7 l d1 [[],[97,32,98],[120]] hl k1 (by simp) (by simp)
 have n2:=z8 l d1 [0,5,e.most + 1] hl k1 (by simp) (by simp)
 have n3:=z8 l d1 [5,0] hl k1 (by simp) (by simp)
 have n4:=z8 l d1 [17,0,3,3] hl k1 (by simp) (by simp)
 have n5:=z8 l d1 [5,3,0] hl k1 (by simp) (by simp)
 have n6:=z9 l d1 [97] 5 2048 8 hl k1 (by simp) (by unfold I60;omega) (by unfold I60;omega) (by unfold I60;omega)
 generalize afA l d1 [[],[97,32,98],[120]] = y1 at *
 generalize ofD l d1 [0,5,e.most + 1] = y2 at *
 generalize ofD l d1 [5,0] = y3 at *
 generalize ofD l d1 [17,0,3,3] = y4 at *
 generalize ofD l d1 [5,3,0] = y5 at *
 generalize j9 l d1 [97] 5 2048 8 = y6 at *
 obtain ⟨y1,z1⟩:=y1
 obtain ⟨y2,z2⟩:=y2
 obtain ⟨y3,z3⟩:=y3
 obtain ⟨y4,z4⟩:=y4
 obtain ⟨y5,z5⟩:=y5
 obtain ⟨y6,z6⟩:=y6
 simp only [Jj,List.map_cons,List.map_nil,QL.v,QL.cells] at n1 nw n2 n3 n4 n5 n6 ⊢
 rcases h8 with rfl|rfl|rfl|rfl|rfl|rfl|rfl|rfl
 all_goals
  simp only [Int.reduceEq,if_true,if_false,reduceIte]
  (have zx:=And.intro hts (And.intro hti (And.intro hls (And.intro hli (And.intro hci hwm)))));refine zgo ?_;repeat' first|exact zt|apply zan|intro hc
 all_goals first|(refine Xb _ rfl rfl zcd ?_;simp only [go_sem];done)|(refine Xb _ rfl rfl zcd ?_;simp only [go_sem];simp;done)|(refine Xb _ rfl rfl zcd ?_;simp only [go_sem];exact ⟨by simp,by rw [List.map_append,List.take_of_length_le (by simp)];rfl⟩)|(refine Xb _ rfl rfl zcd ?_;simp only [go_sem];exact ⟨by simp,atC (x:=⟨1,0,0,[]⟩) (by simp only [QI.v,QI.cells,conv];exact atE 1 0 0),atB _,afL _⟩)|(refine Xb _ rfl rfl zcd ?_;simp only [go_sem];exact ⟨by simp,atC (x:=⟨5,2048,7,y6⟩) (Qc _ _ _ _ (akF ⟨5,2048,7,y6⟩)),atB _,afL _⟩)
theorem aus {c:Qw} {key:Int} (h:c.T):(aol c key).Sm:=by
 have l1:=h.l1
 have l2:=h.l2
 have l3:=h.l3
 unfold aol
 split
 ·exact ⟨by show c.issuer.length < _;omega,by show c.subject.length < _;omega,by show c.names.length < _;omega,fun x hx=>by have:=h.l4 x hx;omega⟩
 ·exact ⟨by simp [apG],by simp [apG],by simp [apG],fun x hx=>by simp [apG] at hx⟩
theorem aq4 {l:List Int} {k:Nat} {iss sub:List UInt8} {a b id sg:Int} {au:Bool} (hk:k≤l.length) (h1:iss.length≤900) (h2:sub.length≤900) (ha:I60 a) (hb:I60 b) (hi:I60 id):(aiO l k iss sub a b id sg au).1.Sm:=by
 refine aus (aqh h1 h2 ha hb hi ?_ ?_ ?_ ?_ ?_)
 ·have:=JT (l:=l) (k:=k) (n:=1000) (by omega) (by omega)
  show (Jx l k 1000).1.natAbs≤_
  omega
 ·exact KZ (by simp) (by simp) (by decide)
 ·exact KZ (by simp) (by simp) (by decide)
 ·exact KZ (by simp) (by simp) (by decide)
 ·cases au
  ·exact Nat.zero_le _
  ·exact KZ (by simp) (by simp) (by decide)
theorem amX {l:List Int}:∀ (m i k:Nat) (iss:List UInt8) (sg:Int) (ab:List Qw),k≤l.length→iss.length≤900→i + m≤3→(∀ c∈ab,c.Sm)→(∀ c∈(q8 l m i k iss sg ab).1.1,c.Sm)∧(q8 l m i k iss sg ab).1.2.1.length≤900∧(q8 l m i k iss sg ab).2≤l.length∧(q8 l m i k iss sg ab).1.1.length = ab.length + m
 | 0,i,k,iss,sg,ab,hk,hi,hm,h=>⟨h,hi,hk,rfl⟩
 | m + 1,i,k,iss,sg,ab,hk,hi,hm,h=>by
   have hs:=aqt i
   rw [q8]
   obtain ⟨g1,g2,g3,g4⟩:=amX (l:=l) m (i + 1) (aiO l k iss (arn i) 5 2048 (11 + (i:Int)) sg true).2 (arn i) (11 + (i:Int)) ((aiO l k iss (arn i) 5 2048 (11 + (i:Int)) sg true).1 :: ab) (aj7 hk) (by omega) (by omega) (fun c hc=>by
    rcases List.mem_cons.1 hc with rfl|hc
    ·exact aq4 hk hi (by omega) (by unfold I60;omega) (by unfold I60;omega) (by unfold I60;omega)
    ·exact h c hc)
   exact ⟨g1,g2,g3,by rw [g4,List.length_cons];omega⟩
theorem apc {l:List Int} {k:Nat} {nm:List UInt8} {a b id:Int} (hk:k≤l.length) (h2:nm.length≤900) (ha:I60 a) (hb:I60 b) (hi:I60 id):(∀ c∈(j9 l k nm a b id).1,c.Sm)∧(j9 l k nm a b id).1.length≤3:=by
 have k1:=WD (l:=l) (k:=k) (xs:=[1,0,2]) hk
 have m1:=afI (l:=l) (k:=k) (xs:=[1,0,2]) (by simp) (by simp)
 have k2:=Je (l:=l) (n:=2) k1
 have hn:(ofD l k [1,0,2]).1.toNat≤2:=by simp only [List.mem_cons,List.not_mem_nil,or_false] at m1;omega
 obtain ⟨g1,g2,g3,g4⟩:=amX (l:=l) (ofD l k [1,0,2]).1.toNat 0 (Jx l (ofD l k [1,0,2]).2 2).2 [114,111,111,116] (1 + (Jx l (ofD l k [1,0,2]).2 2).1) [] k2 (by simp) (by omega) (by simp)
 simp only [j9]
 refine ⟨fun c hc=>?_,by rw [List.length_cons,g4,List.length_nil];omega⟩
 rcases List.mem_cons.1 hc with rfl|hc
 ·exact aq4 g3 g2 h2 ha hb hi
 ·exact g1 c hc
theorem atD {l:List Int} {k:Nat} {nm:List UInt8} (hk:k≤l.length) (h2:nm.length≤900):(ag3 l k nm).1.Sm:=by
 have h1:=atq (l:=l) hk
 have h3:=Je (l:=l) (n:=20) h1
 have h4:=Je (l:=l) (n:=9) h3
 have r1:=JT (l:=l) (k:=(arU l k).2) (n:=20) (by omega) (by omega)
 have ke:(arU l k).1.1.natAbs≤100000∧(arU l k).1.2.natAbs≤100000:=by
  have:=aqH (l:=l) (k:=k)
  simp only [arU]
  split
  ·exact ⟨KZ (by simp) (by simp) (by decide),akh⟩
  ·exact this
 simp only [ag3]
 split
 ·exact ⟨by simp,fun c hc=>by simp at hc⟩
 ·obtain ⟨g1,g2⟩:=apc (l:=l) (k:=(Jx l (Jx l (arU l k).2 20).2 9).2) (nm:=nm) (a:=(arU l k).1.1) (b:=(arU l k).1.2) (id:=100 + (Jx l (arU l k).2 20).1) h4 h2 (by unfold I60;omega) (by unfold I60;omega) (by unfold I60;omega)
  exact ⟨Nat.lt_of_le_of_lt g2 (by decide),g1⟩
theorem akE {l:List Int} {nm:List UInt8} (h2:nm.length≤900):∀ (m k:Nat) (xs:List QI),k≤l.length→(∀ x∈xs,x.Sm)→∀ x∈(W0 l nm m k xs).1,x.Sm
 | 0,k,xs,hk,h=>h
 | m + 1,k,xs,hk,h=>by
   rw [W0]
   refine akE h2 m _ _ (aoL hk) fun x hx=>?_
   rcases List.mem_append.1 hx with hx|hx
   ·exact h x hx
   ·rw [List.mem_singleton.1 hx];exact atD hk h2
structure QL.D (e:QL):Prop where
 hn:e.name.length≤900
 hm:e.most.natAbs≤100000
 hs:e.suites.length≤20
 hi:e.idents.length≤5
 ha:e.anchors.length≤5
 hh:e.hashes.length≤5
 hx:∀ x∈e.idents,x.Sm
theorem QL.D.sm {e:QL} (h:e.D):e.Sm:=⟨by have:=h.hn;omega,by have:=h.hs;omega,by have:=h.hi;omega,h.hx,by have:=h.ha;omega,by have:=h.hh;omega⟩
theorem QL.D.se {e:QL} (h:e.D):e.SmE:=⟨by have:=h.hs;omega,by have:=h.ha;omega,by have:=h.hh;omega,by have:=h.hi;omega,fun x hx=>(h.hx x hx).hl,fun x hx c hc=>((h.hx x hx).hc c hc).h3⟩
theorem NR.len {a:List Int} (h:NR a):a.length≤16:=aqD h.nd h.rg
theorem apl (n:Int):(asr n).length≤2:=by
 unfold asr
 match n.toNat with
 | 0|1|2|3|4=>decide
 | n + 5=>simp
theorem atG (n:Int):(au0 n).length≤4:=by
 unfold au0
 match n.toNat with
 | 0|1|2=>decide
 | n + 3=>simp
theorem avh {l:List Int} {k:Nat} (hk:k≤l.length):(acf l k).2≤l.length∧(acf l k).1.2.1.length≤16∧(acf l k).1.2.2.2.2.natAbs≤100000∧(acf l k).1.1.natAbs≤3:=by
 have k1:=WD (l:=l) (k:=k) (xs:=[1,1,2,3]) hk
 have m1:=afI (l:=l) (k:=k) (xs:=[1,1,2,3]) (by simp) (by simp)
 obtain ⟨s1,k2⟩:=aml (l:=l) k1
 have k3:=Je (l:=l) (n:=2) k2
 have k4:=Je (l:=l) (n:=2) k3
 simp only [List.mem_cons,List.not_mem_nil,or_false] at m1
 have k5:=Je (l:=l) (n:=5 - (ofD l k [1,1,2,3]).1) k4
 have r5:=JT (l:=l) (k:=(Jx l (Jx l (aau l (ofD l k [1,1,2,3]).2).2 2).2 2).2) (n:=5 - (ofD l k [1,1,2,3]).1) (by omega) (by omega)
 exact ⟨k5,s1.len,by simp only [acf];omega,by simp only [acf];omega⟩
theorem auQ {l:List Int} {k:Nat} {a b:Int} (hk:k≤l.length) (hb:b.natAbs≤100000):(aig l k a b).2≤l.length∧(aig l k a b).1.2.natAbs≤100000:=by
 have k1:=Je (l:=l) (n:=3) hk
 simp only [aig]
 split
 ·exact ⟨WD k1,KZ (by simp) (by simp) (by decide)⟩
 ·exact ⟨k1,hb⟩
theorem axv {l:List Int} {k:Nat} {nm:List UInt8} (hk:k≤l.length) (h2:nm.length≤900):(au3 l k nm).1.D∧(au3 l k nm).2≤l.length∧(au3 l k nm).1.idents.length≤4∧(au3 l k nm).1.suites.length≤16:=by
 obtain ⟨b1,b2,b3,b4⟩:=avh (l:=l) hk
 obtain ⟨m1,m2⟩:=auQ (l:=l) (a:=(acf l k).1.1) b1 b3
 have c1:=WD (l:=l) (xs:=[1,2,1,3,0]) m1
 have c2:=afI (l:=l) (k:=(aig l (acf l k).2 (acf l k).1.1 (acf l k).1.2.2.2.2).2) (xs:=[1,2,1,3,0]) (by simp) (by simp)
 simp only [List.mem_cons,List.not_mem_nil,or_false] at c2
 obtain ⟨g1,g2⟩:=afM (l:=l) (nm:=nm) (ofD l (aig l (acf l k).2 (acf l k).1.1 (acf l k).1.2.2.2.2).2 [1,2,1,3,0]).1.toNat _ [] c1
 have g3:=akE (l:=l) h2 (ofD l (aig l (acf l k).2 (acf l k).1.1 (acf l k).1.2.2.2.2).2 [1,2,1,3,0]).1.toNat _ [] c1 (fun x hx=>by simp at hx)
 have k1:=Je (l:=l) (n:=5) g1
 have k2:=Je (l:=l) (n:=3) k1
 refine ⟨⟨h2,m2,?_,?_,?_,?_,g3⟩,k2,?_,?_⟩
 ·show (acf l k).1.2.1.length≤20;omega
 ·show (W0 l nm _ _ []).1.length≤5;rw [g2,List.length_nil];omega
 ·have:=apl;exact Nat.le_trans (apl _) (by omega)
 ·exact Nat.le_trans (atG _) (by omega)
 ·show (W0 l nm _ _ []).1.length≤4;rw [g2,List.length_nil];omega
 ·exact b2
theorem aob {l:List Int} {k:Nat} {xs:List (List UInt8)} (h1:1≤xs.length) (h2:xs.length < 2 ^ 62) (h:∀ x∈xs,x.length≤900):(afA l k xs).1.length≤900:=h _ (asz h1 h2)
theorem axp {l:List Int} {k:Nat} {e:QL} (hk:k≤l.length) (h:e.D) (hi:e.idents.length≤4) (hs':e.suites.length≤16):(awm l k e).1.D∧(awm l k e).2≤l.length:=by
 obtain ⟨hn,hm,hs,hi',ha,hh,hx⟩:=h
 have k1:=Je (l:=l) (n:=8) hk
 have kw:=Je (l:=l) (n:=(([[],[97,32,98],[120]]:List (List UInt8)).length:Int)) k1
 simp only [awm]
 split
 ·exact ⟨⟨aob (by simp) (by simp) (by decide),hm,hs,hi',ha,hh,hx⟩,kw⟩
 split
 ·exact ⟨⟨hn,hm,hs,hi',ha,hh,hx⟩,WD k1⟩
 split
 ·exact ⟨⟨hn,KZ (by simp) (by simp) (by decide),hs,hi',ha,hh,hx⟩,WD k1⟩
 split
 ·refine ⟨⟨hn,hm,?_,hi',ha,hh,hx⟩,WD k1⟩
  show (e.suites++_).length≤20
  rw [List.length_append,List.length_singleton];omega
 split
 ·exact ⟨⟨hn,hm,hs,hi',by simp,hh,hx⟩,k1⟩
 split
 ·exact ⟨⟨hn,hm,hs,hi',ha,by simp,hx⟩,WD k1⟩
 split
 ·refine ⟨⟨hn,hm,hs,?_,ha,hh,fun x hx'=>?_⟩,k1⟩
  ·show (e.idents++_).length≤5
   rw [List.length_append,List.length_singleton];omega
  ·rcases List.mem_append.1 hx' with hx'|hx'
   ·exact hx x hx'
   ·rw [List.mem_singleton.1 hx'];exact ⟨by simp,fun c hc=>by simp at hc⟩
 ·obtain ⟨g1,g2⟩:=apc (l:=l) (nm:=[97]) (a:=5) (b:=2048) (id:=8) k1 (by simp) (by unfold I60;omega) (by unfold I60;omega) (by unfold I60;omega)
  refine ⟨⟨hn,hm,hs,?_,ha,hh,fun x hx'=>?_⟩,ahJ (nm:=[97]) (a:=5) (b:=2048) (id:=8) k1⟩
  ·show (e.idents++_).length≤5
   rw [List.length_append,List.length_singleton];omega
  ·rcases List.mem_append.1 hx' with hx'|hx'
   ·exact hx x hx'
   ·rw [List.mem_singleton.1 hx'];exact ⟨Nat.lt_of_le_of_lt g2 (by decide),g1⟩
section
variable {C:Ctx} {nt:Nat} {s:St} {K:St→Prop} {E:Nat→St→Prop} {R:St→Prop}
theorem arg {k1 k2:List Nat} {a b y:AC} {ι:Type} (good:ι→Prop) (mid:ι→St) (h:∀ K':St→Prop,(∀ s' i,good i→Cl C.m s' (mid i)→K' s')→AWp C nt a s (fun s1=>AWp C nt b (s1.keep k1) K' E R) E R) (h':∀ i,good i→AWp C nt y (mid i) K E R):AWp C nt (Qa k1 a (Qa k2 b y)) s K E R :=
 VC (aaj (h (fun s'=>∃ i,good i∧Cl C.m s' (mid i)) fun s' i h1 h2=>⟨i,h1,h2⟩) (fun s1 h1=>arf good mid h1 h') (fun _ _ h=>h) (fun _ h=>h))
theorem avp {k1 k2 k3 k4 k5:List Nat} {a b c d e y:AC} {ι:Type} (good:ι→Prop) (mid:ι→St) (h:∀ K':St→Prop,(∀ s' i,good i→Cl C.m s' (mid i)→K' s')→AWp C nt a s (fun s1=>AWp C nt b (s1.keep k1) (fun s2=>AWp C nt c (s2.keep k2) (fun s3=>AWp C nt d (s3.keep k3) (fun s4=>AWp C nt e (s4.keep k4) K' E R) E R) E R) E R) E R) (h':∀ i,good i→AWp C nt y (mid i) K E R):AWp C nt (Qa k1 a (Qa k2 b (Qa k3 c (Qa k4 d (Qa k5 e y))))) s K E R :=
 VC (aaj (h (fun s'=>∃ i,good i∧Cl C.m s' (mid i)) fun s' i h1 h2=>⟨i,h1,h2⟩) (fun s1 h1=>VC (aaj h1 (fun s2 h2=>VC (aaj h2 (fun s3 h3=>arg good mid (fun K' hK'=>aaj h3 (fun s4 h4=>aaj h4 (fun s5 ⟨i,g,c⟩=>hK' s5 i g c) (fun _ _ h=>h) (fun _ h=>h)) (fun _ _ h=>h) (fun _ h=>h)) h') (fun _ _ h=>h) (fun _ h=>h))) (fun _ _ h=>h) (fun _ h=>h))) (fun _ _ h=>h) (fun _ h=>h))
end
theorem wC (e:QL):closedL e.cells:=by simp only [QL.cells,V.closed,closedL,and_self]
theorem avK {o:Nat→Option Ob} {br:List Nat} {a n:Nat} {l:List (List UInt8)} (h:o a = some (.buf true 1 (l.map V.str))) (hb:a ∉ br) (hn:n = l.length):conv o br none (.hd a 0 n) (.sl 1 (l.map V.str)):=by
 subst hn
 rw [al8]
 exact ⟨trivial,hb,.inl ⟨true,_,h,by rw [List.drop_zero,List.take_of_length_le (by simp)]⟩⟩
theorem alg:∀ ls:List PLn,(∀ x∈ls,x.vals.length < 2 ^ 30)→vC (ls.map akD)≤ls.length * 2 ^ 31
 | [],_=>Nat.zero_le _
 | x :: r,h=>by
   have:=alg r fun y hy=>h y (List.mem_cons_of_mem _ hy)
   have h1:=h x (List.mem_cons_self ..)
   rw [List.map_cons,vC,akD,Kk.siz,vC,List.length_cons,List.length_cons]
   omega
theorem api {e:QL} {al:List (List UInt8)} (sm:e.Sm):∃ (xs:List Kk) (t:Int),ad5 e al = .tup [.sl 4 (xs.map Kk.v),V.int t]∧vC xs < 2 ^ 40:=by
 unfold ad5
 split
 ·rename_i h1
  split
  ·rename_i h2
   refine ⟨[alh e al],0,rfl,?_⟩
   have h3:=alg (Jz e al) fun x hx=>(wq sm h1 h2 x hx).1
   have h4:=List.length_filter_le JQ (aax e al)
   have h5:(Jz e al).length≤8:=by
    simp only [Jz,VI,aax,List.length_append,List.length_cons,List.length_nil] at *
    omega
   rw [vC,alh,Kk.siz,vC,List.length_cons,List.length_cons,List.length_nil]
   omega
  ·exact ⟨[],18,rfl,by simp [vC]⟩
 ·exact ⟨[],19,rfl,by simp [vC]⟩
theorem ahF {α:Type} {p:α→α→Bool} (h:∀ x,p x x = true):∀ l:List α,eqL p l l = true
 | []=>rfl
 | x :: r=>by rw [eqL,h x,ahF h r];rfl
theorem art (e:QL):aru e e = true:=by
 have h1:∀ x,x6 x x = true:=fun x=>by
  have:=ahF (p:=eqS) (fun x=>by simp [eqS]) x.names
  simp [x6,cs1,cs2,cs3,this]
 have h2:=ahF (p:=xZ) (fun x=>by
  have:=ahF h1 x.chain
  simp [xZ,this]) e.idents
 simp [aru,se1,se2,h2]
theorem aof (e:QL) (al:List (List UInt8)):∃ (xs:List Vq) (t:Int),qS e al = .tup [.sl 4 (xs.map Vq.v),V.int t]∧xs.length≤8:=by
 unfold qS
 split
 ·split
  ·split
   ·exact ⟨[],18,rfl,by simp⟩
   ·refine ⟨akj e al,0,rfl,?_⟩
    have:=List.length_filter_le JQ (aax e al)
    simp only [akj,Jz,VI,aax,List.length_map,List.length_append,List.length_cons,List.length_nil] at *
    omega
  ·exact ⟨[],18,rfl,by simp⟩
 ·exact ⟨[],19,rfl,by simp⟩
theorem atK (x:Vq):eqP x x = true:=by simp [eqP]
theorem amL:∀ l:List Vq,eqL eqP l l = true
 | []=>rfl
 | x :: r=>by rw [eqL,atK,amL r];rfl
def lw0 (l:List Int) (c:Int) (e:QL) (k:Nat):St:=stL [(1,.sc (.int .u8 c)),(5,.ptr 0 0),(6,.ptr 1 0)] [.box true (Jj l k),.box true e.cells]
def lwL (l:List Int) (c:Int) (e:QL) (k:Nat) (al:List (List UInt8)) (i:Nat):St:=stL [(1,.sc (.int .u8 c)),(5,.ptr 0 0),(6,.ptr 1 0),(7,.hd 2 0 al.length),(8,V.int i)] [.box true (Jj l k),.box true e.cells,.buf true 1 (al.map V.str)]
def lwB (l:List Int) (c:Int) (e:QL) (k:Nat) (al:List (List UInt8)):St:=stL [(1,.sc (.int .u8 c)),(5,.ptr 0 0),(6,.ptr 1 0),(7,.hd 2 0 al.length)] [.box true (Jj l k),.box true e.cells,.buf true 1 (al.map V.str)]
def lwC (l:List Int) (e:QL) (k:Nat) (al:List (List UInt8)):St:=stL [(5,.ptr 0 0),(6,.ptr 1 0),(7,.sl 1 (al.map V.str))] [.box true (Jj l k),.box true e.cells]
def KA (YR QD QF Js Ju YQ J9:Nat):List AO:=[mv 77 10,mv 78 12,bn 79 .eql 77 78,mv 80 79,mg 81 14 80 true,mg 82 16 80 true,xg 83 (.bin .eql (.t 81) (.t 82)) 80 true,xo 84 (.pick (.t 80) (.t 83) (.c (V.bool false))),mv 85 84,mg 86 9 85 true,mg 87 11 85 true,xg 88 (.call YR [(.t 86),(.t 87)]) 85 true,xo 89 (.pick (.t 85) (.t 88) (.c (V.bool false))),mv 90 89,mg 91 13 90 true,mg 92 15 90 true,xg 93 (.call QD [(.t 91),(.t 92)]) 90 true,xo 94 (.pick (.t 90) (.t 93) (.c (V.bool false))),mv 95 94,xg 96 (.load true 9 (.t 6)) 95 true,xg 97 (.call QF [(.t 96)]) 95 true,xg 98 (.load true 9 (.t 6)) 95 true,xg 99 (.call Js [(.t 98)]) 95 true,xg 100 (.bin .eql (.t 97) (.t 99)) 95 true,xo 101 (.pick (.t 95) (.t 100) (.c (V.bool false))),mv 102 101,xg 103 (.load true 9 (.t 6)) 102 true,xg 104 (.load true 9 (.t 17)) 102 true,xg 105 (.call Ju [(.t 103),(.t 104)]) 102 true,xg 106 (.load true 9 (.t 6)) 102 true,xg 107 (.load true 9 (.t 17)) 102 true,xg 108 (.call YQ [(.t 106),(.t 107)]) 102 true,xg 109 (.eqb false (.t 105) (.t 108)) 102 true,xo 110 (.pick (.t 102) (.t 109) (.c (V.bool false))),mv 111 110,xg 112 (.load true 9 (.t 6)) 111 true,xg 113 (.load true 9 (.t 6)) 111 true,xg 114 (.call Ju [(.t 112),(.t 113)]) 111 true,xo 115 (.pick (.t 111) (.t 114) (.c (V.bool false))),mv 116 115,xg 117 (.call J9 []) 116 true,xo 118 (.pick (.t 116) (.t 117) (.c (V.bool false))),mv 4 118]
def KD:List (List Nat):=[[],[],[0,1],[2],[3],[3],[4,5,3],[3,6],[7,3],[8],[8],[9,10,8,8],[8,11],[12,11],[13],[13],[14,15,13,13],[13,16],[17,16],[18],[19,18,18],[18],[21,20,18],[20,22,18],[18,23],[24,22],[25],[25],[26,27,25,25],[25],[25],[29,30,28,25],[28,31,25],[25,32],[33,31],[34],[34],[35,36,34,34],[34,37],[38,37],[39,39],[39,40],[41,40,0,1,2,3,4,5,6,7,8,9,10,11,12,13,14,15,16,17,18,19,20,21,22,23,24,25,26,27,28,29,30,31,32,33,34,35,36,37,38,39,40,41]]
def Kw:OT:=.one 0 (.one 1 (.one 2 (.one 3 (.one 4 (.one 5 (.one 6 (.one 7 (.one 8 (.one 9 (.one 10 (.or 11 (.one 12 (.one 13 (.one 14 (.one 15 (.or 16 (.one 17 (.one 18 (.one 19 (.one 21 (.or 20 (.one 22 (.one 23 (.one 24 (.one 25 (.one 26 (.one 27 (.one 28 (.one 29 (.one 30 (.one 31 (.one 32 (.one 33 (.one 34 (.one 35 (.one 36 (.one 37 (.one 38 (.one 39 (.one 40 (.one 41 (.one 42 .done))))))))))))))))))))) .done))))) .done))))) .done)))))))))))
@[go_sem] def Ky (YR QD QF Js Ju YQ J9:Nat):OP:=oN 0 (mv 77 10) (oN 1 (mv 78 12) (oN 2 (bn 79 .eql 77 78) (oN 3 (mv 80 79) (oN 4 (mg 81 14 80 true) (oN 5 (mg 82 16 80 true) (oN 6 (xg 83 (.bin .eql (.t 81) (.t 82)) 80 true) (oN 7 (xo 84 (.pick (.t 80) (.t 83) (.c (V.bool false)))) (oN 8 (mv 85 84) (oN 9 (mg 86 9 85 true) (oN 10 (mg 87 11 85 true) (.or 11 false [] (xg 88 (.call YR [(.t 86),(.t 87)]) 85 true) (oN 12 (xo 89 (.pick (.t 85) (.t 88) (.c (V.bool false)))) (oN 13 (mv 90 89) (oN 14 (mg 91 13 90 true) (oN 15 (mg 92 15 90 true) (.or 16 false [11] (xg 93 (.call QD [(.t 91),(.t 92)]) 90 true) (oN 17 (xo 94 (.pick (.t 90) (.t 93) (.c (V.bool false)))) (oN 18 (mv 95 94) (.one 19 false [16,11] (xg 96 (.load true 9 (.t 6)) 95 true) (.one 21 false [16,11] (xg 98 (.load true 9 (.t 6)) 95 true) (.or 20 false [16,11] (xg 97 (.call QF [(.t 96)]) 95 true) (.one 22 false [16,11] (xg 99 (.call Js [(.t 98)]) 95 true) (oN 23 (xg 100 (.bin .eql (.t 97) (.t 99)) 95 true) (oN 24 (xo 101 (.pick (.t 95) (.t 100) (.c (V.bool false)))) (oN 25 (mv 102 101) (.one 26 false [22,16,11,20] (xg 103 (.load true 9 (.t 6)) 102 true) (.one 27 false [22,16,11,20] (xg 104 (.load true 9 (.t 17)) 102 true) (.one 28 false [22,16,11,20] (xg 105 (.call Ju [(.t 103),(.t 104)]) 102 true) (.one 29 false [22,16,11,20] (xg 106 (.load true 9 (.t 6)) 102 true) (.one 30 false [22,16,11,20] (xg 107 (.load true 9 (.t 17)) 102 true) (.one 31 false [22,16,11,20] (xg 108 (.call YQ [(.t 106),(.t 107)]) 102 true) (oN 32 (xg 109 (.eqb false (.t 105) (.t 108)) 102 true) (oN 33 (xo 110 (.pick (.t 102) (.t 109) (.c (V.bool false)))) (oN 34 (mv 111 110) (.one 35 false [31,22,16,11,20,28] (xg 112 (.load true 9 (.t 6)) 111 true) (.one 36 false [31,22,16,11,20,28] (xg 113 (.load true 9 (.t 6)) 111 true) (.one 37 false [31,22,16,11,20,28] (xg 114 (.call Ju [(.t 112),(.t 113)]) 111 true) (oN 38 (xo 115 (.pick (.t 111) (.t 114) (.c (V.bool false)))) (oN 39 (mv 116 115) (.one 40 false [37,31,22,16,11,20,28] (xg 117 (.call J9 []) 116 true) (oN 41 (xo 118 (.pick (.t 116) (.t 117) (.c (V.bool false)))) (oN 42 (mv 4 118) .done))))))))))))))))))))) .done))))) .done))))) .done)))))))))))
instance (YR QD QF Js Ju YQ J9:Nat):RG [] Kw (Ky YR QD QF Js Ju YQ J9) (KA YR QD QF Js Ju YQ J9) KD 43 (fun _=>true):=⟨rfl,by kernel_rfl,by kernel_rfl⟩
def Vt (aai J9 abS VP aeC J8 Wd Vz W4 U1 YR QD QF Js Ju YQ:Nat):AC:=Qa [0,1] (.reg [mc 4 (V.bool false)]) (Qa [0,1] (Qa [0,1,20] (.reg [mv 18 0,cl 19 aai [18],xo 20 (.un .not (.t 19))]) (.cond (.t 20) (Qa [4] (.reg [cl 21 J9 [],mv 4 21]) .ret) .skip)) (Qa [1,5] (.reg [mv 22 0,cl 23 abS [22],mv 5 23]) (Qa [1,5,6] (.reg [mv 24 5,xo 25 (.call VP [(.t 24),(.c (V.str [119,101,98]))]),xo 6 (.alloc [.val vs0,.val vi0,.val vi0,.nil 1,.val (.bool false),.nil 4,.nil 1,.nil 1,.val (.bool false)]),xs 9 6 25]) (Qa [1,5,6] (Qa [1,5,6,28] (.reg [mv 26 1,bc 27 .rem 26 (.sc (.int .u8 3)),bc 28 .eql 27 (.sc (.int .u8 0))]) (.cond (.t 28) (.reg [mv 29 5,xo 30 (.load true 9 (.t 6)),cl 31 aeC [29,30],xs 9 6 31]) .skip)) (Qa [1,5,6,7] (.reg [xo 7 (.mknil 1)]) (Qa [1,5,6,7] (Qa [1,5,6,7,8] (.reg [mc 8 (V.int 0)]) (.block 0 (JH [1,5,6,7,8] (Qa [1,5,6,7,8] (Qa [1,5,6,7,8,36] (.reg [mv 32 8,fa 33 5 6,ld 34 1 33,ln 35 34,bn 36 .lss 32 35]) (.cond (.t 36) .skip (.exit 0))) (Qa [1,5,6,7,8] (.block 1 (.reg [mv 39 7,mv 40 5,xo 41 (.bslice 5 1 false [vs0] [(0,(.c (V.str [107,49]))),(1,(.c (V.str [107,50]))),(2,(.c (V.str [97,45,98]))),(3,(.c (V.str [34,120]))),(4,(.c (V.str [])))]),cl 42 J8 [40,41],xo 43 (.bslice 1 1 false [vs0] [(0,(.t 42))]),xo 44 (.append 1 16 [vs0] (.t 39) (.t 43)),mv 7 44])) (.reg [mv 37 8,bc 38 .add 37 (V.int 1),mv 8 38])))))) (Qa [5,6,7] (Qa [5,6,7,47] (.reg [mv 45 1,bc 46 .rem 45 (.sc (.int .u8 7)),bc 47 .eql 46 (.sc (.int .u8 1))]) (.cond (.t 47) (.reg [mv 48 7,xo 49 (.bslice 1 1 false [vs0] [(0,(.c (V.str [107])))]),xo 50 (.append 1 16 [vs0] (.t 48) (.t 49)),mv 7 50]) .skip)) (Qa [5,6,7,9,10] (.reg [xo 52 (.load true 9 (.t 6)),mv 53 7,cl 54 Wd [52,53],mv 51 54,ex 55 51 0,ex 56 51 1,mv 9 55,mv 10 56]) (Qa [5,6,7,9,10,11,12] (.reg [xo 58 (.load true 9 (.t 6)),mv 59 7,cl 60 Vz [58,59],mv 57 60,ex 61 57 0,ex 62 57 1,mv 11 61,mv 12 62]) (Qa [5,6,7,9,10,11,12,13,14] (.reg [xo 64 (.load true 9 (.t 6)),mv 65 7,cl 66 W4 [64,65],mv 63 66,ex 67 63 0,ex 68 63 1,mv 13 67,mv 14 68]) (Qa [5,6,9,10,11,12,13,14,15,16] (.reg [xo 70 (.load true 9 (.t 6)),mv 71 7,cl 72 U1 [70,71],mv 69 72,ex 73 69 0,ex 74 69 1,mv 15 73,mv 16 74]) (Qa [6,9,10,11,12,13,14,15,16,17] (.reg [mv 75 5,xo 76 (.call VP [(.t 75),(.c (V.str [119,101,98]))]),xo 17 (.alloc [.val vs0,.val vi0,.val vi0,.nil 1,.val (.bool false),.nil 4,.nil 1,.nil 1,.val (.bool false)]),xs 9 17 76]) (Qa [4] (yh [] Kw (Ky YR QD QF Js Ju YQ J9) (KA YR QD QF Js Ju YQ J9) KD) .ret))))))))))))) def r_law09_EndpointWrites:List Jl:=[.tmp 4]
def qD (Γ:Env) (f:Nat):Prop:=∀ (l:List Int) (c:Int) (h0:0≤c) (h1:c≤255),EvN Γ f [.sl 1 (l.map V.int),.sc (.int .u8 c)] (V.bool true)
theorem abU {Γ:Env} {f aai J9 abS VP aeC J8 Wd Vz W4 U1 YR QD QF Js Ju YQ:Nat} (h:Has Γ.P f 119 (Vt aai J9 abS VP aeC J8 Wd Vz W4 U1 YR QD QF Js Ju YQ) r_law09_EndpointWrites) (z0:acC Γ aai) (z1:aa3 Γ J9) (z2:aew Γ abS) (z3:yP Γ VP) (z4:agB Γ aeC) (z5:VG Γ J8) (z6:Vx Γ Wd) (z7:Kn Γ Vz) (z8:UA Γ W4) (z9:jy Γ U1) (z10:acu Γ YR) (z11:qA Γ QD) (z12:WR Γ QF) (z13:jS Γ Js) (z14:yR Γ Ju) (z15:acp Γ YQ):qD Γ f:=by
 intro l c h0 h1
 refine Qe h zsi zcl zcl fun C hC hm=>?_
 subst hC
 unfold Vt
 have hm:C.m = 0:=by simpa using hm
 have aw:=(EvN.b z1)
 have gL:=z0 l
 by_cases hlen:l.length≤400
 ·have e0:decide ((l.length:Int)≤400) = true:=by simp;omega
  rw [e0] at gL
  have hm3:c.tmod 3 = c % 3:=Int.tmod_eq_emod_of_nonneg h0
  have hm7:c.tmod 7 = c % 7:=Int.tmod_eq_emod_of_nonneg h0
  have d3:IntKind.u8.wrap (c % 3) = c % 3:=by unfold IntKind.wrap;simp [IntKind.signed,IntKind.bits];omega
  have d7:IntKind.u8.wrap (c % 7) = c % 7:=by unfold IntKind.wrap;simp [IntKind.signed,IntKind.bits];omega
  refine avp (ι:=QL×Nat) (fun q=>q.1.D∧q.2≤l.length) (fun q=>lw0 l c q.1 q.2) (fun K' hK'=>?_) fun q hq=>?_
  ·have n1:=z2 l
   simp only [Jj] at n1
   have n2:=z3 l 0 [119,101,98] hlen (Nat.zero_le _) (by decide)
   obtain ⟨E1,k2,i2,s2⟩:=axv (l:=l) (k:=0) (nm:=[119,101,98]) (Nat.zero_le _) (by decide)
   generalize au3 l 0 [119,101,98] = w at *
   obtain ⟨e,d1⟩:=w
   simp only at n2 E1 k2 i2 s2
   by_cases hc3:c % 3 = 0
   ·have c3:(c % 3 == 0) = true:=by simp [hc3]
    have n3:=z4 l d1 e hlen k2 (by unfold I60;have:=E1.hm;omega) (by omega) (by omega)
    obtain ⟨O1,k3⟩:=axp (l:=l) k2 E1 i2 s2
    generalize awm l d1 e = w3 at *
    obtain ⟨o,d2⟩:=w3
    simp only at n3 O1 k3
    simp only [Jj,QL.v,QL.cells] at n2 n3
    repeat' (first|(refine zsk ?_;intro K' hK)|(refine zrg ?_;intro K' hK)|refine zsp ?_|(refine zsc ?_ ?_<;>intro hc<;>first|exact znh|try simp only [znz] at hc)|simp (maxSteps:=1000000) only [go_sem,Jj,e0,hm3,d3,c3]|(refine hK _ ?_;clear hK K')|apply zan|(apply Xz;(focus exact rfl);(focus first|exact n2|exact n3|exact (z5 _ _ _ zsd zsd zsd zsd));(focus exact rfl);(focus exact rfl))|(apply YV;(focus exact rfl);(focus exact zrd);(focus exact zrd);(focus first|exact n2|exact n3|exact (z5 _ _ _ zsd zsd zsd zsd));(focus exact rfl);(focus exact rfl);(focus exact zrd))|(apply ad8;(focus first|exact n1|exact (z2 _)))|(apply wR;(focus first|exact n1|exact (z2 _));(focus exact zrd))|((first|apply Jb|apply Q6);(focus first|exact gL.b|exact (z0 _).b|exact EvN.b z1|exact (z6 _ _ _ zsd zsd).b|exact (z7 _ _ _ zsd zsd).b|exact (z8 _ _ _ zsd zsd).b|exact (z9 _ _ _ zsd zsd).b|exact (z10 _ _ zsd).b|exact (z11 _ zsd).b|exact (z12 _ _).b|exact (z13 _ _).b|exact (z14 _ _ _).b|exact (z15 _ _ _).b))|exact zsq|fail)
    all_goals
     refine hK' _ (o,d2) ⟨O1,k3⟩ ?_
     refine VJ [5000,9000] none (fun p hp=>?_) ?_ (by simp) (by rw [hm];rfl)
     ·simp only [List.mem_cons,List.not_mem_nil,or_false] at hp
      rcases hp with rfl|rfl|rfl
      ·exact Qc _ _ _ (.sc (.int .u8 c)) trivial
      ·show conv _ _ _ (.ptr 5000 0) (.ptr 0 0)
       simp [conv]
      ·show conv _ _ _ (.ptr 9000 0) (.ptr 1 0)
       simp [conv]
     ·exact ⟨⟨_,rfl,fun h=>h,Qg _ _ _ _ (QB _ _)⟩,⟨_,rfl,fun h=>h,Qg _ _ _ _ (wC _)⟩,trivial⟩
   ·have c3:(c % 3 == 0) = false:=by simp [hc3]
    simp only [Jj,QL.v,QL.cells] at n2
    repeat' (first|(refine zsk ?_;intro K' hK)|(refine zrg ?_;intro K' hK)|refine zsp ?_|(refine zsc ?_ ?_<;>intro hc<;>first|exact znh|try simp only [znz] at hc)|simp (maxSteps:=1000000) only [go_sem,Jj,e0,hm3,d3,c3]|(refine hK _ ?_;clear hK K')|apply zan|(apply Xz;(focus exact rfl);(focus first|exact n2|exact (z5 _ _ _ zsd zsd zsd zsd));(focus exact rfl);(focus exact rfl))|(apply YV;(focus exact rfl);(focus exact zrd);(focus exact zrd);(focus first|exact n2|exact (z5 _ _ _ zsd zsd zsd zsd));(focus exact rfl);(focus exact rfl);(focus exact zrd))|(apply ad8;(focus first|exact n1|exact (z2 _)))|(apply wR;(focus first|exact n1|exact (z2 _));(focus exact zrd))|((first|apply Jb|apply Q6);(focus first|exact gL.b|exact (z0 _).b|exact EvN.b z1|exact (z6 _ _ _ zsd zsd).b|exact (z7 _ _ _ zsd zsd).b|exact (z8 _ _ _ zsd zsd).b|exact (z9 _ _ _ zsd zsd).b|exact (z10 _ _ zsd).b|exact (z11 _ zsd).b|exact (z12 _ _).b|exact (z13 _ _).b|exact (z14 _ _ _).b|exact (z15 _ _ _).b))|exact zsq|fail)
    all_goals
     refine hK' _ (e,d1) ⟨E1,k2⟩ ?_
     refine VJ [5000,9000] none (fun p hp=>?_) ?_ (by simp) (by rw [hm];rfl)
     ·simp only [List.mem_cons,List.not_mem_nil,or_false] at hp
      rcases hp with rfl|rfl|rfl
      ·exact Qc _ _ _ (.sc (.int .u8 c)) trivial
      ·show conv _ _ _ (.ptr 5000 0) (.ptr 0 0)
       simp [conv]
      ·show conv _ _ _ (.ptr 9000 0) (.ptr 1 0)
       simp [conv]
     ·exact ⟨⟨_,rfl,fun h=>h,Qg _ _ _ _ (QB _ _)⟩,⟨_,rfl,fun h=>h,Qg _ _ _ _ (wC _)⟩,trivial⟩
  obtain ⟨e,d1⟩:=q
  obtain ⟨q1,q2⟩:=hq
  simp only at q1 q2
  refine arg (ι:=Nat×List (List UInt8)) (fun q=>q.1≤l.length∧q.2.length = e.idents.length∧∀ x∈q.2,x.length≤900) (fun q=>lwB l c e q.1 q.2) (fun K' hK'=>?_) fun q hq=>?_
  ·simp only [lw0,Jj,QL.cells,stL]
   repeat' (first|(refine zsk ?_;intro K' hK)|(refine zrg ?_;intro K' hK)|refine zsp ?_|(refine zsc ?_ ?_<;>intro hc<;>first|exact znh|try simp only [znz] at hc)|simp (maxSteps:=1000000) only [go_sem]|(refine hK _ ?_;clear hK K')|apply zan|(apply Xz;(focus exact rfl);(focus first|exact (z5 _ _ _ zsd zsd zsd zsd));(focus exact rfl);(focus exact rfl))|(apply YV;(focus exact rfl);(focus exact zrd);(focus exact zrd);(focus first|exact (z5 _ _ _ zsd zsd zsd zsd));(focus exact rfl);(focus exact rfl);(focus exact zrd))|(apply ad8;(focus first|exact (z2 _)))|(apply wR;(focus first|exact (z2 _));(focus exact zrd))|((first|apply Jb|apply Q6);(focus first|exact (z0 _).b|exact EvN.b z1|exact (z6 _ _ _ zsd zsd).b|exact (z7 _ _ _ zsd zsd).b|exact (z8 _ _ _ zsd zsd).b|exact (z9 _ _ _ zsd zsd).b|exact (z10 _ _ zsd).b|exact (z11 _ zsd).b|exact (z12 _ _).b|exact (z13 _ _).b|exact (z14 _ _ _).b|exact (z15 _ _ _).b))|exact zsq|fail)
   refine jt (ι:=Nat×List (List UInt8)) (fun q=>q.1≤l.length∧q.2.length≤e.idents.length∧∀ x∈q.2,x.length≤900) (fun q=>lwL l c e q.1 q.2 q.2.length) (fun q=>e.idents.length - q.2.length) (d1,[]) ⟨q2,by simp,by simp⟩ ?_ fun q hq K2 hL=>?_
   ·refine VJ [0,1,2] none (fun p hp=>?_) ?_ (by simp) (by rw [hm];rfl)
    ·simp only [List.mem_cons,List.not_mem_nil,or_false] at hp
     rcases hp with rfl|rfl|rfl|rfl|rfl
     ·exact Qc _ _ _ (.sc (.int .u8 c)) trivial
     ·show conv _ _ _ (.ptr 0 0) (.ptr 0 0)
      simp [conv]
     ·show conv _ _ _ (.ptr 1 0) (.ptr 1 0)
      simp [conv]
     ·show conv _ _ _ (.hd 2 0 0) (.hd 2 0 0)
      simp [conv]
     ·exact Qc _ _ _ (V.int 0) trivial
    ·exact ⟨⟨_,rfl,fun h=>h,Qg _ _ _ _ (QB _ _)⟩,⟨_,rfl,fun h=>h,Qg _ _ _ _ (wC _)⟩,⟨_,rfl,fun h=>h,rfl,rfl⟩,trivial⟩
   obtain ⟨k,al⟩:=q
   simp only at hq hL ⊢
   obtain ⟨g1,g2,g3⟩:=hq
   have hta:List.take al.length (al.map V.str) = al.map V.str:=List.take_of_length_le (by simp)
   have hlm:(al.map V.str).length = al.length:=List.length_map _
   have hli:(e.idents.map QI.v).length = e.idents.length:=List.length_map _
   simp only [lwL,stL,Jj,QL.cells]
   by_cases hal:al.length = e.idents.length
   ·have e1:decide ((al.length:Int) < (e.idents.length:Int)) = false:=by simp;omega
    repeat' (first|(refine zsk ?_;intro K' hK)|(refine zrg ?_;intro K' hK)|refine zsp ?_|(refine zsc ?_ ?_<;>intro hc<;>first|exact znh|try simp only [znz] at hc)|simp (maxSteps:=1000000) only [go_sem,e1,hli]|(refine hK _ ?_;clear hK K')|apply zan|(apply Xz;(focus exact rfl);(focus first|exact (z5 _ _ _ zsd zsd zsd zsd));(focus exact rfl);(focus exact rfl))|(apply YV;(focus exact rfl);(focus exact zrd);(focus exact zrd);(focus first|exact (z5 _ _ _ zsd zsd zsd zsd));(focus exact rfl);(focus exact rfl);(focus exact zrd))|(apply ad8;(focus first|exact (z2 _)))|(apply wR;(focus first|exact (z2 _));(focus exact zrd))|((first|apply Jb|apply Q6);(focus first|exact (z0 _).b|exact EvN.b z1|exact (z6 _ _ _ zsd zsd).b|exact (z7 _ _ _ zsd zsd).b|exact (z8 _ _ _ zsd zsd).b|exact (z9 _ _ _ zsd zsd).b|exact (z10 _ _ zsd).b|exact (z11 _ zsd).b|exact (z12 _ _).b|exact (z13 _ _).b|exact (z14 _ _ _).b|exact (z15 _ _ _).b))|exact zsq|fail)
    all_goals
     refine hK' _ (k,al) ⟨g1,hal,g3⟩ (VJ [0,1,2] none (fun p hp=>?_) ?_ (by simp) (by rw [hm];rfl))
     ·simp only [List.mem_cons,List.not_mem_nil,or_false] at hp
      rcases hp with rfl|rfl|rfl|rfl
      ·exact Qc _ _ _ (.sc (.int .u8 c)) trivial
      ·show conv _ _ _ (.ptr 0 0) (.ptr 0 0)
       simp [conv]
      ·show conv _ _ _ (.ptr 1 0) (.ptr 1 0)
       simp [conv]
      ·show conv _ _ _ (.hd 2 0 al.length) (.hd 2 0 al.length)
       simp [conv]
     ·exact ⟨⟨_,rfl,fun h=>h,Qg _ _ _ _ (QB _ _)⟩,⟨_,rfl,fun h=>h,Qg _ _ _ _ (wC _)⟩,⟨_,rfl,fun h=>h,rfl,rfl⟩,trivial⟩
   ·have hal2:al.length < e.idents.length:=by omega
    have hi5:=q1.hi
    have e1:decide ((al.length:Int) < (e.idents.length:Int)) = true:=decide_eq_true (by omega)
    have hw1:IntKind.i64.wrap ((al.length:Int) + 1) = ((al.length + 1:Nat):Int):=by rw [Yv (by omega) (by omega)];rfl
    have n1:=z5 l k [[107,49],[107,50],[97,45,98],[34,120],[]] hlen g1 (by simp) (by simp)
    have kw:=Je (l:=l) (n:=(([[107,49],[107,50],[97,45,98],[34,120],[]]:List (List UInt8)).length:Int)) g1
    have lw:=aob (l:=l) (k:=k) (xs:=[[107,49],[107,50],[97,45,98],[34,120],[]]) (by simp) (by simp) (by decide)
    have kw2:(afA l k [[107,49],[107,50],[97,45,98],[34,120],[]]).2≤l.length:=kw
    clear kw
    generalize afA l k [[107,49],[107,50],[97,45,98],[34,120],[]] = w at *
    obtain ⟨w,k3⟩:=w
    simp only [Jj,List.map_cons,List.map_nil] at n1 lw kw2
    repeat' (first|(refine zsk ?_;intro K' hK)|(refine zrg ?_;intro K' hK)|refine zsp ?_|(refine zsc ?_ ?_<;>intro hc<;>first|exact znh|try simp only [znz] at hc)|simp (maxSteps:=1000000) only [go_sem,e1,hli,hta,hlm,hw1]|(refine hK _ ?_;clear hK K')|apply zan|(apply Xz;(focus exact rfl);(focus first|exact n1|exact (z5 _ _ _ zsd zsd zsd zsd));(focus exact rfl);(focus exact rfl))|(apply YV;(focus exact rfl);(focus exact zrd);(focus exact zrd);(focus first|exact n1|exact (z5 _ _ _ zsd zsd zsd zsd));(focus exact rfl);(focus exact rfl);(focus exact zrd))|(apply ad8;(focus first|exact (z2 _)))|(apply wR;(focus first|exact (z2 _));(focus exact zrd))|((first|apply Jb|apply Q6);(focus first|exact (z0 _).b|exact EvN.b z1|exact (z6 _ _ _ zsd zsd).b|exact (z7 _ _ _ zsd zsd).b|exact (z8 _ _ _ zsd zsd).b|exact (z9 _ _ _ zsd zsd).b|exact (z10 _ _ zsd).b|exact (z11 _ zsd).b|exact (z12 _ _).b|exact (z13 _ _).b|exact (z14 _ _ _).b|exact (z15 _ _ _).b))|exact zsq|fail)
    all_goals
     refine hL _ (k3,al++[w]) ⟨kw2,by simp only [List.length_append,List.length_singleton];omega,fun x hx=>?_⟩ (by simp only [List.length_append,List.length_singleton];omega) (VJ [0,1,10003] none (fun p hp=>?_) ?_ (by simp) (by rw [hm];rfl))
     ·rcases List.mem_append.1 hx with hx|hx
      ·exact g3 x hx
      ·rw [List.mem_singleton.1 hx];exact lw
     ·simp only [List.mem_cons,List.not_mem_nil,or_false] at hp
      rcases hp with rfl|rfl|rfl|rfl|rfl
      ·exact Qc _ _ _ (.sc (.int .u8 c)) trivial
      ·show conv _ _ _ (.ptr 0 0) (.ptr 0 0)
       simp [conv]
      ·show conv _ _ _ (.ptr 1 0) (.ptr 1 0)
       simp [conv]
      ·show conv _ _ _ (.hd 10003 0 (al.length + 1)) (.hd 2 0 (al++[w]).length)
       rw [List.length_append,List.length_singleton]
       simp [conv]
      ·show conv _ _ _ (V.int (al.length + 1:Nat)) (V.int ((al++[w]).length:Nat))
       rw [List.length_append,List.length_singleton]
       exact Qc _ _ _ (V.int _) trivial
     ·exact ⟨⟨_,rfl,fun h=>h,Qg _ _ _ _ (QB _ _)⟩,⟨_,rfl,fun h=>h,Qg _ _ _ _ (wC _)⟩,⟨_,rfl,fun h=>h,rfl,by rw [List.map_append];rfl⟩,trivial⟩
  obtain ⟨k,al⟩:=q
  obtain ⟨r1,r2,r3⟩:=hq
  simp only at r1 r2 r3 ⊢
  have hi5:=q1.hi
  refine wQ (ι:=List (List UInt8)) (fun q=>q.length≤6∧∀ x∈q,x.length≤900) (fun q=>lwC l e k q) (fun K' hK'=>?_) fun q hq=>?_
  ·have hta:List.take al.length (al.map V.str) = al.map V.str:=List.take_of_length_le (by simp)
   have hlm:(al.map V.str).length = al.length:=List.length_map _
   simp only [lwB,stL,Jj,QL.cells]
   by_cases hc7:c % 7 = 1
   ·have c7:(c % 7 == 1) = true:=by simp [hc7]
    repeat' (first|(refine zsk ?_;intro K' hK)|(refine zrg ?_;intro K' hK)|refine zsp ?_|(refine zsc ?_ ?_<;>intro hc<;>first|exact znh|try simp only [znz] at hc)|simp (maxSteps:=1000000) only [go_sem,hm7,d7,c7,hta,hlm]|(refine hK _ ?_;clear hK K')|apply zan|(apply Xz;(focus exact rfl);(focus first|exact (z5 _ _ _ zsd zsd zsd zsd));(focus exact rfl);(focus exact rfl))|(apply YV;(focus exact rfl);(focus exact zrd);(focus exact zrd);(focus first|exact (z5 _ _ _ zsd zsd zsd zsd));(focus exact rfl);(focus exact rfl);(focus exact zrd))|(apply ad8;(focus first|exact (z2 _)))|(apply wR;(focus first|exact (z2 _));(focus exact zrd))|((first|apply Jb|apply Q6);(focus first|exact (z0 _).b|exact EvN.b z1|exact (z6 _ _ _ zsd zsd).b|exact (z7 _ _ _ zsd zsd).b|exact (z8 _ _ _ zsd zsd).b|exact (z9 _ _ _ zsd zsd).b|exact (z10 _ _ zsd).b|exact (z11 _ zsd).b|exact (z12 _ _).b|exact (z13 _ _).b|exact (z14 _ _ _).b|exact (z15 _ _ _).b))|exact zsq|fail)
    all_goals
     refine hK' _ (al++[[107]]) ⟨by simp only [List.length_append,List.length_singleton];omega,fun x hx=>?_⟩ ?_
     ·rcases List.mem_append.1 hx with hx|hx
      ·exact r3 x hx
      ·rw [List.mem_singleton.1 hx];decide
     refine VJ [0,1] none (fun p hp=>?_) ?_ (by simp) (by rw [hm];rfl)
     ·simp only [List.mem_cons,List.not_mem_nil,or_false] at hp
      rcases hp with rfl|rfl|rfl
      ·show conv _ _ _ (.ptr 0 0) (.ptr 0 0)
       simp [conv]
      ·show conv _ _ _ (.ptr 1 0) (.ptr 1 0)
       simp [conv]
      ·exact avK (by rw [List.map_append];rfl) (by simp) (by simp)
     ·exact ⟨⟨_,rfl,fun h=>h,Qg _ _ _ _ (QB _ _)⟩,⟨_,rfl,fun h=>h,Qg _ _ _ _ (wC _)⟩,trivial⟩
   ·have c7:(c % 7 == 1) = false:=by simp [hc7]
    repeat' (first|(refine zsk ?_;intro K' hK)|(refine zrg ?_;intro K' hK)|refine zsp ?_|(refine zsc ?_ ?_<;>intro hc<;>first|exact znh|try simp only [znz] at hc)|simp (maxSteps:=1000000) only [go_sem,hm7,d7,c7,hta,hlm]|(refine hK _ ?_;clear hK K')|apply zan|(apply Xz;(focus exact rfl);(focus first|exact (z5 _ _ _ zsd zsd zsd zsd));(focus exact rfl);(focus exact rfl))|(apply YV;(focus exact rfl);(focus exact zrd);(focus exact zrd);(focus first|exact (z5 _ _ _ zsd zsd zsd zsd));(focus exact rfl);(focus exact rfl);(focus exact zrd))|(apply ad8;(focus first|exact (z2 _)))|(apply wR;(focus first|exact (z2 _));(focus exact zrd))|((first|apply Jb|apply Q6);(focus first|exact (z0 _).b|exact EvN.b z1|exact (z6 _ _ _ zsd zsd).b|exact (z7 _ _ _ zsd zsd).b|exact (z8 _ _ _ zsd zsd).b|exact (z9 _ _ _ zsd zsd).b|exact (z10 _ _ zsd).b|exact (z11 _ zsd).b|exact (z12 _ _).b|exact (z13 _ _).b|exact (z14 _ _ _).b|exact (z15 _ _ _).b))|exact zsq|fail)
    all_goals
     refine hK' _ al ⟨by omega,r3⟩ ?_
     refine VJ [0,1] none (fun p hp=>?_) ?_ (by simp) (by rw [hm];rfl)
     ·simp only [List.mem_cons,List.not_mem_nil,or_false] at hp
      rcases hp with rfl|rfl|rfl
      ·show conv _ _ _ (.ptr 0 0) (.ptr 0 0)
       simp [conv]
      ·show conv _ _ _ (.ptr 1 0) (.ptr 1 0)
       simp [conv]
      ·exact avK rfl (by simp) rfl
     ·exact ⟨⟨_,rfl,fun h=>h,Qg _ _ _ _ (QB _ _)⟩,⟨_,rfl,fun h=>h,Qg _ _ _ _ (wC _)⟩,trivial⟩
  obtain ⟨q3,q4⟩:=hq
  obtain ⟨xs,t,hxt,hxl⟩:=aof e q
  obtain ⟨bs,u,hbt,hbl⟩:=api (al:=q) q1.sm
  have hq9:∀ x∈q,x.length < 2 ^ 60:=fun x hx=>by have:=q4 x hx;omega
  have p1:=(z6 e q q1.sm (by omega) hq9).b
  have p2:=(z7 e q q1.sm (by omega) hq9).b
  have p3:=(z8 e q q1.sm (by omega) hq9).b
  have p4:=(z9 e q q1.sm (by omega) hq9).b
  have p5:=(z10 xs xs (by omega)).b
  have p6:=(z11 bs hbl).b
  have p7:=(z12 e q1.sm).b
  have p8:=(z13 e q1.sm).b
  have n5:=z3 l k [119,101,98] hlen r1 (by decide)
  generalize au3 l k [119,101,98] = w5 at *
  obtain ⟨o,k5⟩:=w5
  have p9:=(z14 e o q1.se).b
  have p10:=(z15 e o q1.se).b
  have p11:=(z14 e e q1.se).b
  rw [art] at p11
  rw [hxt] at p1 p2
  rw [hbt] at p3 p4
  rw [amL] at p5
  simp only [Jj,QL.v,QL.cells] at p1 p2 p3 p4 p7 p8 p9 p10 p11 n5
  generalize (if JS e = true then (0:Int) else 19) = ck at *
  simp only [lwC,stL,Jj,QL.cells]
  clear q3 q4 hq9 hxt hbt
  repeat' (first|(refine zsk ?_;intro K' hK)|(refine zrg ?_;intro K' hK)|refine zsp ?_|(refine zsc ?_ ?_<;>intro hc<;>first|exact znh|try simp only [znz] at hc)|simp (maxSteps:=1000000) only [go_sem,beq_self_eq_true]|(refine hK _ ?_;clear hK K')|apply zan|(apply Xz;(focus exact rfl);(focus first|exact n5|exact (z5 _ _ _ zsd zsd zsd zsd));(focus exact rfl);(focus exact rfl))|(apply YV;(focus exact rfl);(focus exact zrd);(focus exact zrd);(focus first|exact n5|exact (z5 _ _ _ zsd zsd zsd zsd));(focus exact rfl);(focus exact rfl);(focus exact zrd))|(apply ad8;(focus first|exact (z2 _)))|(apply wR;(focus first|exact (z2 _));(focus exact zrd))|((first|apply Jb|apply Q6);(focus first|exact p1|exact p2|exact p3|exact p4|exact p5|exact p6|exact p7|exact p8|exact p9|exact p10|exact p11|exact aw|exact (z0 _).b|exact EvN.b z1|exact (z6 _ _ _ zsd zsd).b|exact (z7 _ _ _ zsd zsd).b|exact (z8 _ _ _ zsd zsd).b|exact (z9 _ _ _ zsd zsd).b|exact (z10 _ _ zsd).b|exact (z11 _ zsd).b|exact (z12 _ _).b|exact (z13 _ _).b|exact (z14 _ _ _).b|exact (z15 _ _ _).b))|exact zsq|fail)
  all_goals first|exact zr
 ·have e0:decide ((l.length:Int)≤400) = false:=by simp;omega
  rw [e0] at gL
  repeat' (first|(refine zsk ?_;intro K' hK)|(refine zrg ?_;intro K' hK)|refine zsp ?_|(refine zsc ?_ ?_<;>intro hc<;>first|exact znh|try simp only [znz] at hc)|simp (maxSteps:=1000000) only [go_sem,e0]|(refine hK _ ?_;clear hK K')|apply zan|(apply Xz;(focus exact rfl);(focus first|exact (z5 _ _ _ zsd zsd zsd zsd));(focus exact rfl);(focus exact rfl))|(apply YV;(focus exact rfl);(focus exact zrd);(focus exact zrd);(focus first|exact (z5 _ _ _ zsd zsd zsd zsd));(focus exact rfl);(focus exact rfl);(focus exact zrd))|(apply ad8;(focus first|exact (z2 _)))|(apply wR;(focus first|exact (z2 _));(focus exact zrd))|((first|apply Jb|apply Q6);(focus first|exact gL.b|exact aw|exact (z0 _).b|exact EvN.b z1|exact (z6 _ _ _ zsd zsd).b|exact (z7 _ _ _ zsd zsd).b|exact (z8 _ _ _ zsd zsd).b|exact (z9 _ _ _ zsd zsd).b|exact (z10 _ _ zsd).b|exact (z11 _ zsd).b|exact (z12 _ _).b|exact (z13 _ _).b|exact (z14 _ _ _).b|exact (z15 _ _ _).b))|exact zsq|fail)
  all_goals first|exact zr
end Av
end
