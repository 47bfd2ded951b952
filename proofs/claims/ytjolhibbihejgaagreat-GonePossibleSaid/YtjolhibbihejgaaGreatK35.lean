/- K35 -/
import Derived.Test.YtjolhibbihejgaaGreatK34
import Derived.Test.YtjolhibbihejgaaGreatK12
set_option linter.unusedVariables false
set_option linter.unusedSimpArgs false
noncomputable section
set_option maxRecDepth 10000
set_option maxHeartbeats 4000000
namespace Av
open Go
attribute [local irreducible] AWp UY qH yr awS awC aaT awQ abS Q1 Ub aaE awR Ux awB okR ym ris
def suS (c:Int):List Int:=if c = 0 then [10,8,2] else if c = 1 then [8,2] else [2,10,8,3]
def suM (m c:Int):List Int:=if m = 4 then 14 :: suS c else suS c
def qE (name:List UInt8) (i:Int) (m c:Int) (ow fa:Bool):JG:=⟨name,1,m,suM m c,ow,[afv name 5 2048 (100 + i) 1 901],[1],[2,3],fa⟩
def af2 (l:List Int) (name:List UInt8) (i:Int) (k:Nat):JG×Nat :=
 let a:=ofD l k [3,3,4]
 let b:=Jf l a.2 3
 let c:=Jf l b.2 2
 let d:=Jf l c.2 3
 (qE name i a.1 b.1 (c.1 == 2 - 1) (d.1 == 3 - 1),d.2)
def QT:List (List UInt8):=[[97,112,112],[100,98],[119,101,98]]
def U7 (l:List Int) (k:Nat):Nat→List JG×Nat
 | 0=>([],k)
 | n + 1=>((U7 l k n).1++[(af2 l (QT.getD n []) n (U7 l k n).2).1],(af2 l (QT.getD n []) n (U7 l k n).2).2)
def obE (es:List JG):Ob:=if es = [] then .buf true 9 [] else .obuf true 9 (es.map JG.v)
def atQ (l:List Int) (n:Nat) (i:Nat) (x:List JG×Nat):St:=stL [(0,.ptr 0 0),(2,.ptr 1 0),(3,.ptr 2 0),(4,.sl 1 ((QT.take n).map V.str)),(16,.sl 1 ((QT.take n).map V.str)),(17,V.int n),(18,V.int i)] [.box true (Yv l x.2),.box true [.top,.top,.top],.box true [.hd 3 0 x.1.length,.hd 4 0 0,.hd 5 0 0],obE x.1,.buf true 2 [],.buf true 5 []]
def aiN (l:List Int) (i:Nat) (s:List (Int×Int)×Nat) (j:Nat):List (Int×Int)×Nat:=if i = j then s else (if (Jf l s.2 3).1 > 0∧s.1.length < 3 then s.1++[((i:Int),(j:Int))] else s.1,(Jf l s.2 3).2)
def amp (l:List Int) (i:Nat) (s:List (Int×Int)×Nat):Nat→List (Int×Int)×Nat
 | 0=>s
 | j + 1=>aiN l i (amp l i s j) j
def aay (l:List Int) (n:Nat) (s:List (Int×Int)×Nat):Nat→List (Int×Int)×Nat
 | 0=>s
 | i + 1=>amp l i (aay l n s i) n
def ake (es:List (Int×Int)):List (Int×Int):=if es = [] then [(0,1)] else es
def Yn (l:List Int) (k:Nat):Nat→List Jh×Nat
 | 0=>([],k)
 | n + 1=>((Yn l k n).1++[(abd l (qB l (Yn l k n).2 [[98,97,99,107,117,112],[100,101,101,100]]).2 (qB l (Yn l k n).2 [[98,97,99,107,117,112],[100,101,101,100]]).1).1],(abd l (qB l (Yn l k n).2 [[98,97,99,107,117,112],[100,101,101,100]]).2 (qB l (Yn l k n).2 [[98,97,99,107,117,112],[100,101,101,100]]).1).2)
def obI (xs:List Jh):Ob:=if xs = [] then .buf true 5 [] else .obuf true 5 (xs.map Jh.v)
def atP (l:List Int) (n:Nat) (es:List JG) (i:Nat) (s:List (Int×Int)×Nat):St:=stL [(0,.ptr 0 0),(2,.ptr 1 0),(3,.ptr 2 0),(4,.sl 1 ((QT.take n).map V.str)),(65,V.int n),(66,V.int i)] [.box true (Yv l s.2),.box true [.top,.top,.top],.box true [.hd 3 0 es.length,.hd 4 0 s.1.length,.hd 5 0 0],obE es,.buf true 2 (s.1.map QK),.buf true 5 []]
def atO (l:List Int) (n:Nat) (es:List JG) (i j:Nat) (s:List (Int×Int)×Nat):St:=stL [(0,.ptr 0 0),(2,.ptr 1 0),(3,.ptr 2 0),(4,.sl 1 ((QT.take n).map V.str)),(8,V.int i),(65,V.int n),(66,V.int i),(70,V.int n),(71,V.int j)] [.box true (Yv l s.2),.box true [.top,.top,.top],.box true [.hd 3 0 es.length,.hd 4 0 s.1.length,.hd 5 0 0],obE es,.buf true 2 (s.1.map QK),.buf true 5 []]
def asm (l:List Int) (es:List JG) (ed:List (Int×Int)) (m:Nat) (s:List Jh×Nat):St:=stL [(0,.ptr 0 0),(2,.ptr 1 0),(3,.ptr 2 0),(10,V.int m)] [.box true (Yv l s.2),.box true [.top,.top,.top],.box true [.hd 3 0 es.length,.hd 4 0 ed.length,.hd 5 0 s.1.length],obE es,.buf true 2 (ed.map QK),obI s.1]
def XR (l:List Int) (k:Nat):wJ×Nat :=
 let a:=Jf l k 2
 let n:=(2 + a.1).toNat
 let e:=U7 l a.2 n
 let d:=aay l n ([],e.2) n
 let m:=Jf l d.2 3
 let t:=Yn l m.2 m.1.toNat
 (⟨e.1,ake d.1,t.1⟩,t.2)
theorem akd {l:List Int} {i:Nat} {s:List (Int×Int)×Nat} (hs:s.2≤l.length∧s.1.length≤3):∀ j,(amp l i s j).2≤l.length∧(amp l i s j).1.length≤3
 | 0=>hs
 | j + 1=>by
   obtain ⟨h1,h2⟩:=akd (i:=i) hs j
   rw [amp,aiN]
   split
   ·exact ⟨h1,h2⟩
   ·refine ⟨JX h1,?_⟩
    dsimp only
    split
    ·rw [zn,List.length_singleton];omega
    ·exact h2
theorem ahp {l:List Int} {n:Nat} {s:List (Int×Int)×Nat} (hs:s.2≤l.length∧s.1.length≤3):∀ i,(aay l n s i).2≤l.length∧(aay l n s i).1.length≤3
 | 0=>hs
 | i + 1=>akd (ahp hs i) n
theorem abc {l:List Int} {k:Nat} (hk:k≤l.length):∀ n,(Yn l k n).2≤l.length∧(Yn l k n).1.length = n∧∀ x∈(Yn l k n).1,x.Ok
 | 0=>⟨hk,rfl,fun x hx=>by simp [Yn] at hx⟩
 | n + 1=>by
   obtain ⟨h1,h2,h3⟩:=abc hk n
   have hm:=amW (l:=l) (k:=(Yn l k n).2) (xs:=[[98,97,99,107,117,112],[100,101,101,100]]) (by decide) (by decide)
   have hw:=agz (xs:=[[98,97,99,107,117,112],[100,101,101,100]]) h1
   rw [Yn]
   generalize qB l (Yn l k n).2 [[98,97,99,107,117,112],[100,101,101,100]] = w at *
   have na:Qw [98,97,99,107,117,112] = true:=by decide +kernel
   have nb:Qw [100,101,101,100] = true:=by decide +kernel
   simp only [zo,zl,or_false] at hm
   have hn:Qw w.1 = true∧w.1.length < 2 ^ 60:=by
    rcases hm with h|h<;>rw [h]
    ·exact ⟨na,by decide⟩
    ·exact ⟨nb,by decide⟩
   obtain ⟨o1,o2⟩:=apO (l:=l) (k:=w.2) (name:=w.1) hw hn.1 hn.2
   refine ⟨o2,by rw [zn,h2];rfl,fun x hx=>?_⟩
   rcases zU.1 hx with hx|hx
   ·exact h3 x hx
   ·rw [zu.1 hx];exact o1
theorem V6 {o:Nat→Option Ob} {br:List Nat} {B:Option (List Nat)} {ys zs:List V} (h:qS o br B ys zs):∀ l:List JG,qS o br B (l.map JG.v++ys) (l.map JG.v++zs)
 | []=>h
 | x :: r=>⟨Qe _ _ _ _ (by simp [JG.v,JG.cells,V.cells,Qd,V.closed]),V6 h r⟩
theorem U3 (es:List JG) (e:JG):obE (es++[e]) = .obuf true 9 (es.map JG.v++[e.v]):=by rw [obE,if_neg (by simp)];simp
theorem KO (e:JG):obE [e] = .obuf true 9 [e.v]:=U3 [] e
theorem XK {o:Nat→Option Ob} {br:List Nat} {nm:List UInt8} {m:Int} {ow fa:Bool} {x:Jz} {su:List Int} {a n b c d:Nat} (ha:o a = some (.buf true 1 (su.map V.int))) (hn:n = su.length) (hb:o b = some (.obuf true 4 [x.v])) (hc:o c = some (.buf true 1 [V.int 1])) (hd:o d = some (.buf true 1 [V.int 2,V.int 3])) (na:a ∉ br) (nb:b ∉ br) (nc:c ∉ br) (nd:d ∉ br) :
  Qu o br none [V.str nm,V.int 1,V.int m,.hd a 0 n,V.bool ow,.hd b 0 1,.hd c 0 1,.hd d 0 2,V.bool fa] (JG.cells ⟨nm,1,m,su,ow,[x],[1],[2,3],fa⟩):=by
 subst hn
 refine ⟨Qb _ _ _ (V.str nm) trivial,Qb _ _ _ (V.int 1) trivial,Qb _ _ _ (V.int m) trivial,?_,Qb _ _ _ (V.bool ow) trivial,?_,?_,?_,Qb _ _ _ (V.bool fa) trivial,trivial⟩
 ·rw [x6]
  exact ⟨trivial,na,.inl ⟨true,_,ha,by rw [zZ,zi (by simp)]⟩⟩
 ·rw [x6]
  refine ⟨trivial,nb,.inr ⟨true,_,hb,?_,⟨by simp [Jz.v],trivial⟩,⟨by simp only [Jz.v,Jz.cells,V.closed,Qd,and_self],trivial⟩⟩⟩
  exact ⟨Qb _ _ _ _ (by simp only [Jz.v,Jz.cells,V.closed,Qd,and_self]),trivial⟩
 ·rw [x6]
  exact ⟨trivial,nc,.inl ⟨true,_,hc,rfl⟩⟩
 ·rw [x6]
  exact ⟨trivial,nd,.inl ⟨true,_,hd,rfl⟩⟩
theorem U2 {o:Nat→Option Ob} {br:List Nat} (es:List JG):aqx o br none (obE es) (obE es):=by
 rcases es with _|⟨x,r⟩
 ·exact ⟨fun h=>h,rfl,rfl⟩
 ·have:obE (x :: r) = .obuf true 9 ((x :: r).map JG.v):=by rw [obE,if_neg (by simp)]
  rw [this]
  refine ⟨fun h=>h,rfl,?_⟩
  have:=V6 (o:=o) (br:=br) (B:=none) (ys:=[]) (zs:=[]) trivial (x :: r)
  rwa [zW] at this
theorem aag {o:Nat→Option Ob} {br:List Nat} {B:Option (List Nat)} {ys zs:List V} (h:qS o br B ys zs):∀ l:List Jh,qS o br B (l.map Jh.v++ys) (l.map Jh.v++zs)
 | []=>h
 | x :: r=>⟨Qe _ _ _ _ (by simp [Jh.v,Jh.cells,V.cells,Qd,V.closed]),aag h r⟩
theorem aez (es:List Jh) (e:Jh):obI (es++[e]) = .obuf true 5 (es.map Jh.v++[e.v]):=by rw [obI,if_neg (by simp)];simp
theorem aon:∀ l:List JG,ntL (l.map JG.v)
 | []=>trivial
 | x :: r=>⟨by simp [JG.v],aon r⟩
theorem ww:∀ l:List JG,Qd (l.map JG.v)
 | []=>trivial
 | x :: r=>⟨by simp only [JG.v,JG.cells,V.closed,Qd,and_self],ww r⟩
theorem ak2:∀ l:List Jh,ntL (l.map Jh.v)
 | []=>trivial
 | x :: r=>⟨by simp [Jh.v],ak2 r⟩
theorem yT:∀ l:List Jh,Qd (l.map Jh.v)
 | []=>trivial
 | x :: r=>⟨by simp only [Jh.v,Jh.cells,V.closed,Qd,and_self],yT r⟩
theorem akY {o:Nat→Option Ob} {br:List Nat} {a:Nat} {l:List JG} (hb:a ∉ br) (h:o a = some (obE l)):conv o br none (.hd a 0 l.length) (.sl 9 (l.map JG.v)):=by
 rw [x6]
 rcases l with _|⟨x,r⟩
 ·exact ⟨trivial,hb,.inl ⟨true,_,h,rfl⟩⟩
 ·refine ⟨trivial,hb,.inr ⟨true,_,h,?_,aon _,ww _⟩⟩
  rw [zZ,zi (by simp)]
  exact Qe _ _ _ _ (ww _)
theorem akX {o:Nat→Option Ob} {br:List Nat} {a:Nat} {l:List Jh} (hb:a ∉ br) (h:o a = some (obI l)):conv o br none (.hd a 0 l.length) (.sl 5 (l.map Jh.v)):=by
 rw [x6]
 rcases l with _|⟨x,r⟩
 ·exact ⟨trivial,hb,.inl ⟨true,_,h,rfl⟩⟩
 ·refine ⟨trivial,hb,.inr ⟨true,_,h,?_,ak2 _,yT _⟩⟩
  rw [zZ,zi (by simp)]
  exact Qe _ _ _ _ (yT _)
theorem agP (e:Jh):obI [e] = .obuf true 5 [e.v]:=aez [] e
theorem aqG {name:List UInt8} {id:Int} (hn:name.length≤1000) (h0:0≤id∧id≤1000):(aeI name 5 2048 id 901).T:=by
 have b:∀ x:Int,0≤x→x≤4000→I60 x:=fun x h1 h2=>by unfold I60;omega
 refine ⟨b _ h0.1 (by show id≤4000;omega),b 5 (by omega) (by omega),b 2048 (by omega) (by omega),b _ h0.1 (by show id≤4000;omega),b 3 (by omega) (by omega),b 0 (by omega) (by omega),b 0 (by omega) (by omega),b 901 (by omega) (by omega),b 0 (by omega) (by omega),by show 4≤1000;omega,hn,by show 1≤64;omega,fun x hx=>?_⟩
 rw [zu.1 hx];exact hn
theorem aho {l:List Int} {k:Nat} (hk:k≤l.length):∀ n,(U7 l k n).2≤l.length∧(U7 l k n).1.length = n
 | 0=>⟨hk,rfl⟩
 | n + 1=>by
   obtain ⟨h1,h2⟩:=aho hk n
   rw [U7]
   exact ⟨JX (JX (JX (akW h1))),by rw [zn,h2];rfl⟩
def jG:=qd Proofs.Tryz.f7 [⟨fun _=>false,[1,5,6],.one 0 (.one 2 (.one 3 (.one 4 (.or 1 (.one 5 (.one 6 (.one 7 (.one 8 (.one 9 (.one 10 (.done))))))) (.or 5 (.or 1 (.one 6 (.one 7 (.one 8 (.one 9 (.one 10 (.done)))))) (.or 6 (.one 1 (.one 7 (.one 8 (.one 9 (.one 10 (.done)))))) (.done))) (.done))))))⟩,⟨fun y=>!decide (y = 0),[3,9,13,17],zoc 0 21⟩]
def xJ (Γ:Env) (f:Nat):Prop:=∀ (l:List Int) (k:Nat) (hl:l.length≤400) (hk:k≤l.length),EvD Γ f [] (Yv l k) ((XR l k).1.v) (Yv l (XR l k).2)
attribute [local go_sem] List.length_nil Yv stL in
theorem ahd {Γ:Env} {f:Nat} (h:Has Γ.P f 122 jG.1.1.ac jG.1.2) (z1:JR Γ 13) (z2:VD Γ 14) (z3:Ke Γ 15) (z4:aaO Γ 17) (z5:wV Γ 16) (z6:UC Γ 19) (z7:wX Γ 18):xJ Γ f:=by
 intro l k hl hk
 refine Wf h zsi (by first|exact Qm _ _|simp only [wJ.v,wJ.cells,V.closed,Qd,and_self,and_true]) zc3 zc3 fun C hC hm=>?_
 subst hC
 simp only [jG,qd,DC.ac]
 have n1:=z1 l k 2 hl hk
 have r1:=QU (l:=l) (k:=k) (n:=2) (by omega) (by omega)
 have k1:=JX (n:=2) hk
 simp only [XR]
 generalize Jf l k 2 = x1 at *
 obtain ⟨a1,q1⟩:=x1
 simp only at n1 r1 k1 ⊢
 obtain ⟨n,hn⟩:∃ n:Nat,2 + a1 = n:=⟨(2 + a1).toNat,by omega⟩
 have w1:IntKind.i64.wrap (2 + a1) = (n:Int):=by rw [hn];exact Q9 (by omega) (by omega)
 have hn23:n = 2∨n = 3:=by omega
 rw [hn,Int.toNat_natCast]
 simp only [Yv,zy,zw] at n1
 have gR:=z4.b
 have hn3:n≤3:=by omega
 (have zx:=za w1 hn3);refine zgo ?_;repeat' first|exact zt|apply zan|intro hc
 have ob0:obE [] = .buf true 9 []:=rfl
 refine V7 (ι:=Nat) (fun i=>i≤n) (fun i=>atQ l n i (U7 l q1 i)) (fun i=>n - i) 0 (zA _) ?_ fun i hi K' hL=>?_
 ·refine Vn [0,1,1001,1002,1003,1004] none (fun p hp=>?_) ?_ (by simp) (by rw [hm];rfl)
  ·simp only [zo,zl,or_false] at hp
   have hnm:conv (upd (fun k_1=>[Ob.box true [V.sl 1 (List.map V.int l),V.int (k:Nat)]][k_1]?) 2001 (some (Ob.buf true 1 [V.str [97,112,112],V.str [100,98],V.str [119,101,98]]))) [0,1,1001,1002,1003,1004] none (.hd 2001 0 (n - 0)) (.sl 1 ((QT.take n).map V.str)):=by
    rw [x6]
    refine ⟨trivial,by decide,.inl ⟨true,_,rfl,?_⟩⟩
    rcases hn23 with rfl|rfl<;>rfl
   rcases hp with rfl|rfl|rfl|rfl|rfl|rfl|rfl
   ·show conv _ _ _ (.ptr 0 0) (.ptr 0 0)
    simp [conv]
   ·show conv _ _ _ (.ptr 1 0) (.ptr 1 0)
    simp [conv]
   ·show conv _ _ _ (.ptr 1001 0) (.ptr 2 0)
    simp [conv]
   ·show conv _ _ _ (.hd 2001 0 (n - 0)) _
    rw [x6]
    refine ⟨trivial,by decide,.inl ⟨true,_,rfl,?_⟩⟩
    rcases hn23 with rfl|rfl<;>rfl
   ·show conv _ _ _ (.hd 2001 0 (n - 0)) _
    rw [x6]
    refine ⟨trivial,by decide,.inl ⟨true,_,rfl,?_⟩⟩
    rcases hn23 with rfl|rfl<;>rfl
   ·exact Qb _ _ _ (V.int n) trivial
   ·exact Qb _ _ _ (V.int 0) trivial
  ·exact ⟨⟨_,rfl,fun h=>h,Qe _ _ _ _ (Qm _ _)⟩,⟨_,rfl,fun h=>h,by simp [Qu,conv]⟩,⟨_,rfl,fun h=>h,by simp [Qu,conv,U7]⟩,⟨_,rfl,fun h=>h,rfl,rfl⟩,⟨_,rfl,fun h=>h,rfl,rfl⟩,⟨_,rfl,fun h=>h,rfl,rfl⟩,trivial⟩
 obtain ⟨he1,he2⟩:=aho (l:=l) k1 i
 rcases kR i n with hlt|hge
 ·have e1:decide ((i:Int) < (n:Int)) = true:=zv (by omega)
  have hw:=Qg (k:=i) (by omega)
  obtain ⟨nm,hnm,hnl⟩:∃ nm,QT[i]? = some nm∧nm.length≤1000:=by
   rcases (by omega:i = 0∨i = 1∨i = 2) with rfl|rfl|rfl
   ·exact ⟨_,rfl,by decide⟩
   ·exact ⟨_,rfl,by decide⟩
   ·exact ⟨_,rfl,by decide⟩
  have vn:((QT.take n).map V.str)[i]? = some (V.str nm):=by rw [zk,ZN,if_pos hlt,hnm];rfl
  have hgd:QT.getD i [] = nm:=by rw [zK,hnm];rfl
  have hsn:U7 l q1 (i + 1) = ((U7 l q1 i).1++[(af2 l (QT.getD i []) i (U7 l q1 i).2).1],(af2 l (QT.getD i []) i (U7 l q1 i).2).2):=rfl
  rw [hgd] at hsn
  simp only [atQ]
  generalize U7 l q1 i = x at *
  obtain ⟨out,q⟩:=x
  simp only at he1 he2 hsn ⊢
  have hse:af2 l nm i q = (qE nm i (ofD l q [3,3,4]).1 (Jf l (ofD l q [3,3,4]).2 3).1 ((Jf l (Jf l (ofD l q [3,3,4]).2 3).2 2).1 == 2 - 1) ((Jf l (Jf l (Jf l (ofD l q [3,3,4]).2 3).2 2).2 3).1 == 3 - 1),(Jf l (Jf l (Jf l (ofD l q [3,3,4]).2 3).2 2).2 3).2):=rfl
  rw [hse] at hsn
  have nA:=z2 l q [3,3,4] hl he1 (by decide) (by decide)
  have rA:=acn (l:=l) (k:=q) (xs:=[3,3,4]) (by decide) (by decide)
  have kA:=akW (xs:=[3,3,4]) he1
  generalize ofD l q [3,3,4] = xa at *
  obtain ⟨m,qa⟩:=xa
  simp only [zo,zl,or_false] at nA rA kA hsn
  have nB:=z1 l qa 3 hl kA
  have rB:=QU (l:=l) (k:=qa) (n:=3) (by omega) (by omega)
  have kB:=JX (n:=3) kA
  generalize Jf l qa 3 = xb at *
  obtain ⟨c,qb⟩:=xb
  simp only at nB rB kB hsn
  have nC:=z3 l qb 2 hl kB (by omega) (by omega)
  have kC:=JX (n:=2) kB
  generalize Jf l qb 2 = xc at *
  obtain ⟨ow,qc⟩:=xc
  simp only at nC kC hsn
  have nD:=z3 l qc 3 hl kC (by omega) (by omega)
  generalize Jf l qc 3 = xd at *
  obtain ⟨fa,qd⟩:=xd
  simp only at nD hsn
  generalize (ow == 2 - 1) = owb at *
  generalize (fa == 3 - 1) = fab at *
  have wi:IntKind.i64.wrap (100 + (i:Int)) = 100 + (i:Int):=Q9 (by omega) (by omega)
  have gL:=(z5 nm 5 2048 (100 + (i:Int)) 1 901 (aqG hnl (by omega))).b
  have hlf:afv nm 5 2048 (100 + (i:Int)) 1 901 = ⟨5,2048,100 + (i:Int),[ael (aeI nm 5 2048 (100 + (i:Int)) 901) 1]⟩:=rfl
  have hso:qE nm i m c owb fab = ⟨nm,1,m,suM m c,owb,[afv nm 5 2048 (100 + (i:Int)) 1 901],[1],[2,3],fab⟩:=rfl
  rw [hso,hlf] at hsn
  rw [hlf] at gL
  generalize [ael (aeI nm 5 2048 (100 + (i:Int)) 901) 1] = ch at *
  simp only [Yv,zy,zw,Jz.v,Jz.cells] at nA nB nC nD gL
  have hol:(out.map JG.v).length = out.length:=zb _
  have htl:List.take out.length (out.map JG.v) = out.map JG.v:=zi (by simp)
  have b1:(out.length + 1) * 9≤2 ^ 40:=by omega
  have b2:out.length + 1≤2 ^ 40:=by omega
  have m4:((4:Int) == 4) = true:=rfl
  have m3:((3:Int) == 4) = false:=rfl
  have hob:out = []∧obE out = .buf true 9 []∨obE out = .obuf true 9 (out.map JG.v):=by
   rcases out with _|⟨y,r⟩
   ·exact .inl ⟨rfl,rfl⟩
   ·exact .inr (by rw [obE,if_neg (by simp)])
  obtain rfl|rfl:m = 3∨m = 4:=by omega
  ·obtain rfl|rfl|rfl:c = 0∨c = 1∨c = 2:=by omega
   ·rcases hob with ⟨rfl,hob⟩|hob
    ·simp only [zw,List.length_nil] at *
     (have zx:=za e1 (za vn (za wi (za hw (za hob m3)))));refine zgo ?_;repeat' first|exact zt|apply zan|intro hc
     all_goals
      refine hL _ (i + 1) (by omega) (by omega) (Vn [0,1,2,42006,4,5] none (fun p hp=>?_) ?_ (by simp) (by rw [hm];rfl))
      ·simp only [zo,zl,or_false] at hp
       rcases hp with rfl|rfl|rfl|rfl|rfl|rfl|rfl
       ·show conv _ _ _ (.ptr 0 0) (.ptr 0 0)
        simp [conv]
       ·show conv _ _ _ (.ptr 1 0) (.ptr 1 0)
        simp [conv]
       ·show conv _ _ _ (.ptr 2 0) (.ptr 2 0)
        simp [conv]
       ·exact Qb _ _ _ (.sl 1 ((QT.take n).map V.str)) trivial
       ·exact Qb _ _ _ (.sl 1 ((QT.take n).map V.str)) trivial
       ·exact Qb _ _ _ (V.int n) trivial
       ·exact Qb _ _ _ (V.int (i + 1:Nat)) trivial
      ·simp only [hsn,U3,KO]
       refine ⟨⟨_,rfl,fun h=>h,Qe _ _ _ _ (Qm _ _)⟩,⟨_,rfl,fun h=>h,by simp [Qu,conv]⟩,⟨_,rfl,fun h=>h,by simp [Qu,conv]⟩,⟨_,rfl,fun h=>h,rfl,⟨XK (a:=10006) (n:=3) (b:=35006) (c:=20006) (d:=21006) rfl rfl rfl rfl rfl (by decide) (by decide) (by decide) (by decide),trivial⟩⟩,⟨_,rfl,fun h=>h,rfl,rfl⟩,⟨_,rfl,fun h=>h,rfl,rfl⟩,trivial⟩
    ·(have zx:=za e1 (za vn (za wi (za hw (za hob (za hol (za htl (za b1 (za b2 m3)))))))));refine zgo ?_;repeat' first|exact zt|apply zan|intro hc
     all_goals
      refine hL _ (i + 1) (by omega) (by omega) (Vn [0,1,2,42006,4,5] none (fun p hp=>?_) ?_ (by simp) (by rw [hm];rfl))
      ·simp only [zo,zl,or_false] at hp
       rcases hp with rfl|rfl|rfl|rfl|rfl|rfl|rfl
       ·show conv _ _ _ (.ptr 0 0) (.ptr 0 0)
        simp [conv]
       ·show conv _ _ _ (.ptr 1 0) (.ptr 1 0)
        simp [conv]
       ·show conv _ _ _ (.ptr 2 0) (.ptr 2 0)
        simp [conv]
       ·exact Qb _ _ _ (.sl 1 ((QT.take n).map V.str)) trivial
       ·exact Qb _ _ _ (.sl 1 ((QT.take n).map V.str)) trivial
       ·exact Qb _ _ _ (V.int n) trivial
       ·exact Qb _ _ _ (V.int (i + 1:Nat)) trivial
      ·simp only [hsn,U3,KO]
       refine ⟨⟨_,rfl,fun h=>h,Qe _ _ _ _ (Qm _ _)⟩,⟨_,rfl,fun h=>h,by simp [Qu,conv]⟩,⟨_,rfl,fun h=>h,by simp [Qu,conv]⟩,⟨_,rfl,fun h=>h,rfl,V6 (ys:=[_]) (zs:=[_]) ⟨XK (a:=10006) (n:=3) (b:=35006) (c:=20006) (d:=21006) rfl rfl rfl rfl rfl (by decide) (by decide) (by decide) (by decide),trivial⟩ out⟩,⟨_,rfl,fun h=>h,rfl,rfl⟩,⟨_,rfl,fun h=>h,rfl,rfl⟩,trivial⟩
   ·rcases hob with ⟨rfl,hob⟩|hob
    ·simp only [zw,List.length_nil] at *
     (have zx:=za e1 (za vn (za wi (za hw (za hob m3)))));refine zgo ?_;repeat' first|exact zt|apply zan|intro hc
     all_goals
      refine hL _ (i + 1) (by omega) (by omega) (Vn [0,1,2,42006,4,5] none (fun p hp=>?_) ?_ (by simp) (by rw [hm];rfl))
      ·simp only [zo,zl,or_false] at hp
       rcases hp with rfl|rfl|rfl|rfl|rfl|rfl|rfl
       ·show conv _ _ _ (.ptr 0 0) (.ptr 0 0)
        simp [conv]
       ·show conv _ _ _ (.ptr 1 0) (.ptr 1 0)
        simp [conv]
       ·show conv _ _ _ (.ptr 2 0) (.ptr 2 0)
        simp [conv]
       ·exact Qb _ _ _ (.sl 1 ((QT.take n).map V.str)) trivial
       ·exact Qb _ _ _ (.sl 1 ((QT.take n).map V.str)) trivial
       ·exact Qb _ _ _ (V.int n) trivial
       ·exact Qb _ _ _ (V.int (i + 1:Nat)) trivial
      ·simp only [hsn,U3,KO]
       refine ⟨⟨_,rfl,fun h=>h,Qe _ _ _ _ (Qm _ _)⟩,⟨_,rfl,fun h=>h,by simp [Qu,conv]⟩,⟨_,rfl,fun h=>h,by simp [Qu,conv]⟩,⟨_,rfl,fun h=>h,rfl,⟨XK (a:=11006) (n:=2) (b:=35006) (c:=20006) (d:=21006) rfl rfl rfl rfl rfl (by decide) (by decide) (by decide) (by decide),trivial⟩⟩,⟨_,rfl,fun h=>h,rfl,rfl⟩,⟨_,rfl,fun h=>h,rfl,rfl⟩,trivial⟩
    ·(have zx:=za e1 (za vn (za wi (za hw (za hob (za hol (za htl (za b1 (za b2 m3)))))))));refine zgo ?_;repeat' first|exact zt|apply zan|intro hc
     all_goals
      refine hL _ (i + 1) (by omega) (by omega) (Vn [0,1,2,42006,4,5] none (fun p hp=>?_) ?_ (by simp) (by rw [hm];rfl))
      ·simp only [zo,zl,or_false] at hp
       rcases hp with rfl|rfl|rfl|rfl|rfl|rfl|rfl
       ·show conv _ _ _ (.ptr 0 0) (.ptr 0 0)
        simp [conv]
       ·show conv _ _ _ (.ptr 1 0) (.ptr 1 0)
        simp [conv]
       ·show conv _ _ _ (.ptr 2 0) (.ptr 2 0)
        simp [conv]
       ·exact Qb _ _ _ (.sl 1 ((QT.take n).map V.str)) trivial
       ·exact Qb _ _ _ (.sl 1 ((QT.take n).map V.str)) trivial
       ·exact Qb _ _ _ (V.int n) trivial
       ·exact Qb _ _ _ (V.int (i + 1:Nat)) trivial
      ·simp only [hsn,U3,KO]
       refine ⟨⟨_,rfl,fun h=>h,Qe _ _ _ _ (Qm _ _)⟩,⟨_,rfl,fun h=>h,by simp [Qu,conv]⟩,⟨_,rfl,fun h=>h,by simp [Qu,conv]⟩,⟨_,rfl,fun h=>h,rfl,V6 (ys:=[_]) (zs:=[_]) ⟨XK (a:=11006) (n:=2) (b:=35006) (c:=20006) (d:=21006) rfl rfl rfl rfl rfl (by decide) (by decide) (by decide) (by decide),trivial⟩ out⟩,⟨_,rfl,fun h=>h,rfl,rfl⟩,⟨_,rfl,fun h=>h,rfl,rfl⟩,trivial⟩
   ·rcases hob with ⟨rfl,hob⟩|hob
    ·simp only [zw,List.length_nil] at *
     (have zx:=za e1 (za vn (za wi (za hw (za hob m3)))));refine zgo ?_;repeat' first|exact zt|apply zan|intro hc
     all_goals
      refine hL _ (i + 1) (by omega) (by omega) (Vn [0,1,2,42006,4,5] none (fun p hp=>?_) ?_ (by simp) (by rw [hm];rfl))
      ·simp only [zo,zl,or_false] at hp
       rcases hp with rfl|rfl|rfl|rfl|rfl|rfl|rfl
       ·show conv _ _ _ (.ptr 0 0) (.ptr 0 0)
        simp [conv]
       ·show conv _ _ _ (.ptr 1 0) (.ptr 1 0)
        simp [conv]
       ·show conv _ _ _ (.ptr 2 0) (.ptr 2 0)
        simp [conv]
       ·exact Qb _ _ _ (.sl 1 ((QT.take n).map V.str)) trivial
       ·exact Qb _ _ _ (.sl 1 ((QT.take n).map V.str)) trivial
       ·exact Qb _ _ _ (V.int n) trivial
       ·exact Qb _ _ _ (V.int (i + 1:Nat)) trivial
      ·simp only [hsn,U3,KO]
       refine ⟨⟨_,rfl,fun h=>h,Qe _ _ _ _ (Qm _ _)⟩,⟨_,rfl,fun h=>h,by simp [Qu,conv]⟩,⟨_,rfl,fun h=>h,by simp [Qu,conv]⟩,⟨_,rfl,fun h=>h,rfl,⟨XK (a:=12006) (n:=4) (b:=35006) (c:=20006) (d:=21006) rfl rfl rfl rfl rfl (by decide) (by decide) (by decide) (by decide),trivial⟩⟩,⟨_,rfl,fun h=>h,rfl,rfl⟩,⟨_,rfl,fun h=>h,rfl,rfl⟩,trivial⟩
    ·(have zx:=za e1 (za vn (za wi (za hw (za hob (za hol (za htl (za b1 (za b2 m3)))))))));refine zgo ?_;repeat' first|exact zt|apply zan|intro hc
     all_goals
      refine hL _ (i + 1) (by omega) (by omega) (Vn [0,1,2,42006,4,5] none (fun p hp=>?_) ?_ (by simp) (by rw [hm];rfl))
      ·simp only [zo,zl,or_false] at hp
       rcases hp with rfl|rfl|rfl|rfl|rfl|rfl|rfl
       ·show conv _ _ _ (.ptr 0 0) (.ptr 0 0)
        simp [conv]
       ·show conv _ _ _ (.ptr 1 0) (.ptr 1 0)
        simp [conv]
       ·show conv _ _ _ (.ptr 2 0) (.ptr 2 0)
        simp [conv]
       ·exact Qb _ _ _ (.sl 1 ((QT.take n).map V.str)) trivial
       ·exact Qb _ _ _ (.sl 1 ((QT.take n).map V.str)) trivial
       ·exact Qb _ _ _ (V.int n) trivial
       ·exact Qb _ _ _ (V.int (i + 1:Nat)) trivial
      ·simp only [hsn,U3,KO]
       refine ⟨⟨_,rfl,fun h=>h,Qe _ _ _ _ (Qm _ _)⟩,⟨_,rfl,fun h=>h,by simp [Qu,conv]⟩,⟨_,rfl,fun h=>h,by simp [Qu,conv]⟩,⟨_,rfl,fun h=>h,rfl,V6 (ys:=[_]) (zs:=[_]) ⟨XK (a:=12006) (n:=4) (b:=35006) (c:=20006) (d:=21006) rfl rfl rfl rfl rfl (by decide) (by decide) (by decide) (by decide),trivial⟩ out⟩,⟨_,rfl,fun h=>h,rfl,rfl⟩,⟨_,rfl,fun h=>h,rfl,rfl⟩,trivial⟩
  ·obtain rfl|rfl|rfl:c = 0∨c = 1∨c = 2:=by omega
   ·rcases hob with ⟨rfl,hob⟩|hob
    ·simp only [zw,List.length_nil] at *
     (have zx:=za e1 (za vn (za wi (za hw (za hob m4)))));refine zgo ?_;repeat' first|exact zt|apply zan|intro hc
     all_goals
      refine hL _ (i + 1) (by omega) (by omega) (Vn [0,1,2,48006,4,5] none (fun p hp=>?_) ?_ (by simp) (by rw [hm];rfl))
      ·simp only [zo,zl,or_false] at hp
       rcases hp with rfl|rfl|rfl|rfl|rfl|rfl|rfl
       ·show conv _ _ _ (.ptr 0 0) (.ptr 0 0)
        simp [conv]
       ·show conv _ _ _ (.ptr 1 0) (.ptr 1 0)
        simp [conv]
       ·show conv _ _ _ (.ptr 2 0) (.ptr 2 0)
        simp [conv]
       ·exact Qb _ _ _ (.sl 1 ((QT.take n).map V.str)) trivial
       ·exact Qb _ _ _ (.sl 1 ((QT.take n).map V.str)) trivial
       ·exact Qb _ _ _ (V.int n) trivial
       ·exact Qb _ _ _ (V.int (i + 1:Nat)) trivial
      ·simp only [hsn,U3,KO]
       refine ⟨⟨_,rfl,fun h=>h,Qe _ _ _ _ (Qm _ _)⟩,⟨_,rfl,fun h=>h,by simp [Qu,conv]⟩,⟨_,rfl,fun h=>h,by simp [Qu,conv]⟩,⟨_,rfl,fun h=>h,rfl,⟨XK (a:=33006) (n:=4) (b:=41006) (c:=20006) (d:=21006) rfl rfl rfl rfl rfl (by decide) (by decide) (by decide) (by decide),trivial⟩⟩,⟨_,rfl,fun h=>h,rfl,rfl⟩,⟨_,rfl,fun h=>h,rfl,rfl⟩,trivial⟩
    ·(have zx:=za e1 (za vn (za wi (za hw (za hob (za hol (za htl (za b1 (za b2 m4)))))))));refine zgo ?_;repeat' first|exact zt|apply zan|intro hc
     all_goals
      refine hL _ (i + 1) (by omega) (by omega) (Vn [0,1,2,48006,4,5] none (fun p hp=>?_) ?_ (by simp) (by rw [hm];rfl))
      ·simp only [zo,zl,or_false] at hp
       rcases hp with rfl|rfl|rfl|rfl|rfl|rfl|rfl
       ·show conv _ _ _ (.ptr 0 0) (.ptr 0 0)
        simp [conv]
       ·show conv _ _ _ (.ptr 1 0) (.ptr 1 0)
        simp [conv]
       ·show conv _ _ _ (.ptr 2 0) (.ptr 2 0)
        simp [conv]
       ·exact Qb _ _ _ (.sl 1 ((QT.take n).map V.str)) trivial
       ·exact Qb _ _ _ (.sl 1 ((QT.take n).map V.str)) trivial
       ·exact Qb _ _ _ (V.int n) trivial
       ·exact Qb _ _ _ (V.int (i + 1:Nat)) trivial
      ·simp only [hsn,U3,KO]
       refine ⟨⟨_,rfl,fun h=>h,Qe _ _ _ _ (Qm _ _)⟩,⟨_,rfl,fun h=>h,by simp [Qu,conv]⟩,⟨_,rfl,fun h=>h,by simp [Qu,conv]⟩,⟨_,rfl,fun h=>h,rfl,V6 (ys:=[_]) (zs:=[_]) ⟨XK (a:=33006) (n:=4) (b:=41006) (c:=20006) (d:=21006) rfl rfl rfl rfl rfl (by decide) (by decide) (by decide) (by decide),trivial⟩ out⟩,⟨_,rfl,fun h=>h,rfl,rfl⟩,⟨_,rfl,fun h=>h,rfl,rfl⟩,trivial⟩
   ·rcases hob with ⟨rfl,hob⟩|hob
    ·simp only [zw,List.length_nil] at *
     (have zx:=za e1 (za vn (za wi (za hw (za hob m4)))));refine zgo ?_;repeat' first|exact zt|apply zan|intro hc
     all_goals
      refine hL _ (i + 1) (by omega) (by omega) (Vn [0,1,2,48006,4,5] none (fun p hp=>?_) ?_ (by simp) (by rw [hm];rfl))
      ·simp only [zo,zl,or_false] at hp
       rcases hp with rfl|rfl|rfl|rfl|rfl|rfl|rfl
       ·show conv _ _ _ (.ptr 0 0) (.ptr 0 0)
        simp [conv]
       ·show conv _ _ _ (.ptr 1 0) (.ptr 1 0)
        simp [conv]
       ·show conv _ _ _ (.ptr 2 0) (.ptr 2 0)
        simp [conv]
       ·exact Qb _ _ _ (.sl 1 ((QT.take n).map V.str)) trivial
       ·exact Qb _ _ _ (.sl 1 ((QT.take n).map V.str)) trivial
       ·exact Qb _ _ _ (V.int n) trivial
       ·exact Qb _ _ _ (V.int (i + 1:Nat)) trivial
      ·simp only [hsn,U3,KO]
       refine ⟨⟨_,rfl,fun h=>h,Qe _ _ _ _ (Qm _ _)⟩,⟨_,rfl,fun h=>h,by simp [Qu,conv]⟩,⟨_,rfl,fun h=>h,by simp [Qu,conv]⟩,⟨_,rfl,fun h=>h,rfl,⟨XK (a:=33006) (n:=3) (b:=41006) (c:=20006) (d:=21006) rfl rfl rfl rfl rfl (by decide) (by decide) (by decide) (by decide),trivial⟩⟩,⟨_,rfl,fun h=>h,rfl,rfl⟩,⟨_,rfl,fun h=>h,rfl,rfl⟩,trivial⟩
    ·(have zx:=za e1 (za vn (za wi (za hw (za hob (za hol (za htl (za b1 (za b2 m4)))))))));refine zgo ?_;repeat' first|exact zt|apply zan|intro hc
     all_goals
      refine hL _ (i + 1) (by omega) (by omega) (Vn [0,1,2,48006,4,5] none (fun p hp=>?_) ?_ (by simp) (by rw [hm];rfl))
      ·simp only [zo,zl,or_false] at hp
       rcases hp with rfl|rfl|rfl|rfl|rfl|rfl|rfl
       ·show conv _ _ _ (.ptr 0 0) (.ptr 0 0)
        simp [conv]
       ·show conv _ _ _ (.ptr 1 0) (.ptr 1 0)
        simp [conv]
       ·show conv _ _ _ (.ptr 2 0) (.ptr 2 0)
        simp [conv]
       ·exact Qb _ _ _ (.sl 1 ((QT.take n).map V.str)) trivial
       ·exact Qb _ _ _ (.sl 1 ((QT.take n).map V.str)) trivial
       ·exact Qb _ _ _ (V.int n) trivial
       ·exact Qb _ _ _ (V.int (i + 1:Nat)) trivial
      ·simp only [hsn,U3,KO]
       refine ⟨⟨_,rfl,fun h=>h,Qe _ _ _ _ (Qm _ _)⟩,⟨_,rfl,fun h=>h,by simp [Qu,conv]⟩,⟨_,rfl,fun h=>h,by simp [Qu,conv]⟩,⟨_,rfl,fun h=>h,rfl,V6 (ys:=[_]) (zs:=[_]) ⟨XK (a:=33006) (n:=3) (b:=41006) (c:=20006) (d:=21006) rfl rfl rfl rfl rfl (by decide) (by decide) (by decide) (by decide),trivial⟩ out⟩,⟨_,rfl,fun h=>h,rfl,rfl⟩,⟨_,rfl,fun h=>h,rfl,rfl⟩,trivial⟩
   ·rcases hob with ⟨rfl,hob⟩|hob
    ·simp only [zw,List.length_nil] at *
     (have zx:=za e1 (za vn (za wi (za hw (za hob m4)))));refine zgo ?_;repeat' first|exact zt|apply zan|intro hc
     all_goals
      refine hL _ (i + 1) (by omega) (by omega) (Vn [0,1,2,48006,4,5] none (fun p hp=>?_) ?_ (by simp) (by rw [hm];rfl))
      ·simp only [zo,zl,or_false] at hp
       rcases hp with rfl|rfl|rfl|rfl|rfl|rfl|rfl
       ·show conv _ _ _ (.ptr 0 0) (.ptr 0 0)
        simp [conv]
       ·show conv _ _ _ (.ptr 1 0) (.ptr 1 0)
        simp [conv]
       ·show conv _ _ _ (.ptr 2 0) (.ptr 2 0)
        simp [conv]
       ·exact Qb _ _ _ (.sl 1 ((QT.take n).map V.str)) trivial
       ·exact Qb _ _ _ (.sl 1 ((QT.take n).map V.str)) trivial
       ·exact Qb _ _ _ (V.int n) trivial
       ·exact Qb _ _ _ (V.int (i + 1:Nat)) trivial
      ·simp only [hsn,U3,KO]
       refine ⟨⟨_,rfl,fun h=>h,Qe _ _ _ _ (Qm _ _)⟩,⟨_,rfl,fun h=>h,by simp [Qu,conv]⟩,⟨_,rfl,fun h=>h,by simp [Qu,conv]⟩,⟨_,rfl,fun h=>h,rfl,⟨XK (a:=33006) (n:=5) (b:=41006) (c:=20006) (d:=21006) rfl rfl rfl rfl rfl (by decide) (by decide) (by decide) (by decide),trivial⟩⟩,⟨_,rfl,fun h=>h,rfl,rfl⟩,⟨_,rfl,fun h=>h,rfl,rfl⟩,trivial⟩
    ·(have zx:=za e1 (za vn (za wi (za hw (za hob (za hol (za htl (za b1 (za b2 m4)))))))));refine zgo ?_;repeat' first|exact zt|apply zan|intro hc
     all_goals
      refine hL _ (i + 1) (by omega) (by omega) (Vn [0,1,2,48006,4,5] none (fun p hp=>?_) ?_ (by simp) (by rw [hm];rfl))
      ·simp only [zo,zl,or_false] at hp
       rcases hp with rfl|rfl|rfl|rfl|rfl|rfl|rfl
       ·show conv _ _ _ (.ptr 0 0) (.ptr 0 0)
        simp [conv]
       ·show conv _ _ _ (.ptr 1 0) (.ptr 1 0)
        simp [conv]
       ·show conv _ _ _ (.ptr 2 0) (.ptr 2 0)
        simp [conv]
       ·exact Qb _ _ _ (.sl 1 ((QT.take n).map V.str)) trivial
       ·exact Qb _ _ _ (.sl 1 ((QT.take n).map V.str)) trivial
       ·exact Qb _ _ _ (V.int n) trivial
       ·exact Qb _ _ _ (V.int (i + 1:Nat)) trivial
      ·simp only [hsn,U3,KO]
       refine ⟨⟨_,rfl,fun h=>h,Qe _ _ _ _ (Qm _ _)⟩,⟨_,rfl,fun h=>h,by simp [Qu,conv]⟩,⟨_,rfl,fun h=>h,by simp [Qu,conv]⟩,⟨_,rfl,fun h=>h,rfl,V6 (ys:=[_]) (zs:=[_]) ⟨XK (a:=33006) (n:=5) (b:=41006) (c:=20006) (d:=21006) rfl rfl rfl rfl rfl (by decide) (by decide) (by decide) (by decide),trivial⟩ out⟩,⟨_,rfl,fun h=>h,rfl,rfl⟩,⟨_,rfl,fun h=>h,rfl,rfl⟩,trivial⟩
 obtain rfl:i = n:=by omega
 have e1:decide ((i:Int) < (i:Int)) = false:=zp (by omega)
 clear hL
 have hnl:((QT.take i).map V.str).length = i:=by rw [zb,zV];show min i 3 = i;omega
 simp only [atQ]
 generalize U7 l q1 i = x at *
 obtain ⟨es,qe⟩:=x
 simp only at he1 he2 ⊢
 (have zx:=za e1 hnl);refine zgo ?_;repeat' first|exact zt|apply zan|intro hc
 refine V7 (ι:=Nat) (fun i'=>i'≤i) (fun i'=>atP l i es i' (aay l i ([],qe) i')) (fun i'=>i - i') 0 (zA _) ?_ fun a ha K' hL=>?_
 ·refine Vn [0,1,2,3,4,5] none (fun p hp=>?_) ?_ (by simp) (by rw [hm];rfl)
  ·simp only [zo,zl,or_false] at hp
   rcases hp with rfl|rfl|rfl|rfl|rfl|rfl
   ·show conv _ _ _ (.ptr 0 0) (.ptr 0 0)
    simp [conv]
   ·show conv _ _ _ (.ptr 1 0) (.ptr 1 0)
    simp [conv]
   ·show conv _ _ _ (.ptr 2 0) (.ptr 2 0)
    simp [conv]
   ·exact Qb _ _ _ (.sl 1 ((QT.take i).map V.str)) trivial
   ·exact Qb _ _ _ (V.int i) trivial
   ·exact Qb _ _ _ (V.int 0) trivial
  ·exact ⟨⟨_,rfl,fun h=>h,Qe _ _ _ _ (Qm _ _)⟩,⟨_,rfl,fun h=>h,by simp [Qu,conv]⟩,⟨_,rfl,fun h=>h,by simp [Qu,conv,aay]⟩,⟨_,rfl,U2 es⟩,⟨_,rfl,fun h=>h,rfl,rfl⟩,⟨_,rfl,fun h=>h,rfl,rfl⟩,trivial⟩
 obtain ⟨oe1,oe2⟩:=ahp (l:=l) (n:=i) (s:=([],qe)) ⟨he1,by simp⟩ a
 rcases kR a i with hlt|hge
 ·have f1:decide ((a:Int) < (i:Int)) = true:=zv (by omega)
  have hwa:=Qg (k:=a) (by omega)
  have hso:aay l i ([],qe) (a + 1) = amp l a (aay l i ([],qe) a) i:=rfl
  simp only [atP]
  generalize aay l i ([],qe) a = s0 at *
  (have zx:=za f1 hnl);refine zgo ?_;repeat' first|exact zt|apply zan|intro hc
  refine V7 (ι:=Nat) (fun j=>j≤i) (fun j=>atO l i es a j (amp l a s0 j)) (fun j=>i - j) 0 (zA _) ?_ fun j hj K2 hM=>?_
  ·refine Vn [0,1,2,3,4,5] none (fun p hp=>?_) ?_ (by simp) (by rw [hm];rfl)
   ·simp only [zo,zl,or_false] at hp
    rcases hp with rfl|rfl|rfl|rfl|rfl|rfl|rfl|rfl|rfl
    ·show conv _ _ _ (.ptr 0 0) (.ptr 0 0)
     simp [conv]
    ·show conv _ _ _ (.ptr 1 0) (.ptr 1 0)
     simp [conv]
    ·show conv _ _ _ (.ptr 2 0) (.ptr 2 0)
     simp [conv]
    ·exact Qb _ _ _ (.sl 1 ((QT.take i).map V.str)) trivial
    ·exact Qb _ _ _ (V.int a) trivial
    ·exact Qb _ _ _ (V.int i) trivial
    ·exact Qb _ _ _ (V.int a) trivial
    ·exact Qb _ _ _ (V.int i) trivial
    ·exact Qb _ _ _ (V.int 0) trivial
   ·exact ⟨⟨_,rfl,fun h=>h,Qe _ _ _ _ (Qm _ _)⟩,⟨_,rfl,fun h=>h,by simp [Qu,conv]⟩,⟨_,rfl,fun h=>h,by simp [Qu,conv,amp]⟩,⟨_,rfl,U2 es⟩,⟨_,rfl,fun h=>h,rfl,rfl⟩,⟨_,rfl,fun h=>h,rfl,rfl⟩,trivial⟩
  obtain ⟨ie1,ie2⟩:=akd (l:=l) (i:=a) (s:=s0) ⟨oe1,oe2⟩ j
  rcases kR j i with hlt2|hge2
  rotate_left
  ·obtain rfl:j = i:=by omega
   have f2:decide ((j:Int) < (j:Int)) = false:=zp (by omega)
   clear hM
   simp only [atO]
   rw [← hso] at ie1 ie2 ⊢
   (have zx:=za f2 hwa);refine zgo ?_;repeat' first|exact zt|apply zan|intro hc
   all_goals
    refine hL _ (a + 1) (by omega) (by omega) (Vn [0,1,2,3,4,5] none (fun p hp=>?_) ?_ (by simp) (by rw [hm];rfl))
    ·simp only [zo,zl,or_false] at hp
     rcases hp with rfl|rfl|rfl|rfl|rfl|rfl
     ·show conv _ _ _ (.ptr 0 0) (.ptr 0 0)
      simp [conv]
     ·show conv _ _ _ (.ptr 1 0) (.ptr 1 0)
      simp [conv]
     ·show conv _ _ _ (.ptr 2 0) (.ptr 2 0)
      simp [conv]
     ·exact Qb _ _ _ (.sl 1 ((QT.take j).map V.str)) trivial
     ·exact Qb _ _ _ (V.int j) trivial
     ·exact Qb _ _ _ (V.int (a + 1:Nat)) trivial
    ·exact ⟨⟨_,rfl,fun h=>h,Qe _ _ _ _ (Qm _ _)⟩,⟨_,rfl,fun h=>h,by simp [Qu,conv]⟩,⟨_,rfl,fun h=>h,by simp [Qu,conv]⟩,⟨_,rfl,U2 es⟩,⟨_,rfl,fun h=>h,rfl,rfl⟩,⟨_,rfl,fun h=>h,rfl,rfl⟩,trivial⟩
  have f2:decide ((j:Int) < (i:Int)) = true:=zv (by omega)
  have hwj:=Qg (k:=j) (by omega)
  have hst:amp l a s0 (j + 1) = aiN l a (amp l a s0 j) j:=rfl
  rw [aiN] at hst
  clear hso
  simp only [atO]
  generalize amp l a s0 j = s1 at *
  obtain ⟨ed,q⟩:=s1
  simp only at ie1 ie2 hst ⊢
  have hel:(ed.map QK).length = ed.length:=zb _
  have hte:List.take ed.length (ed.map QK) = ed.map QK:=zi (by simp)
  by_cases haj:a = j
  ·have f3:((a:Int) != (j:Int)) = false:=by rw [haj];simp
   rw [if_pos haj] at hst
   (have zx:=za f2 (za f3 hwj));refine zgo ?_;repeat' first|exact zt|apply zan|intro hc
   all_goals
    refine hM _ (j + 1) (by omega) (by omega) (Vn [0,1,2,3,4,5] none (fun p hp=>?_) ?_ (by simp) (by rw [hm];rfl))
    ·simp only [zo,zl,or_false] at hp
     rcases hp with rfl|rfl|rfl|rfl|rfl|rfl|rfl|rfl|rfl
     ·show conv _ _ _ (.ptr 0 0) (.ptr 0 0)
      simp [conv]
     ·show conv _ _ _ (.ptr 1 0) (.ptr 1 0)
      simp [conv]
     ·show conv _ _ _ (.ptr 2 0) (.ptr 2 0)
      simp [conv]
     ·exact Qb _ _ _ (.sl 1 ((QT.take i).map V.str)) trivial
     ·exact Qb _ _ _ (V.int a) trivial
     ·exact Qb _ _ _ (V.int i) trivial
     ·exact Qb _ _ _ (V.int a) trivial
     ·exact Qb _ _ _ (V.int i) trivial
     ·exact Qb _ _ _ (V.int (j + 1:Nat)) trivial
    ·simp only [hst]
     exact ⟨⟨_,rfl,fun h=>h,Qe _ _ _ _ (Qm _ _)⟩,⟨_,rfl,fun h=>h,by simp [Qu,conv]⟩,⟨_,rfl,fun h=>h,by simp [Qu,conv]⟩,⟨_,rfl,U2 es⟩,⟨_,rfl,fun h=>h,rfl,rfl⟩,⟨_,rfl,fun h=>h,rfl,rfl⟩,trivial⟩
  have f3:((a:Int) != (j:Int)) = true:=by simp;omega
  rw [if_neg haj] at hst
  have nD:=z1 l q 3 hl ie1
  generalize Jf l q 3 = xd at *
  obtain ⟨v,qv⟩:=xd
  simp only [Yv,zy,zw] at nD hst
  rcases f4:decide (v > 0) with _|_
  ·have hv:¬ (v > 0∧ed.length < 3):=fun h=>by simp at f4;omega
   rw [if_neg hv] at hst
   (have zx:=za f2 (za f3 (za f4 hwj)));refine zgo ?_;repeat' first|exact zt|apply zan|intro hc
   all_goals
    refine hM _ (j + 1) (by omega) (by omega) (Vn [0,1,2,3,4,5] none (fun p hp=>?_) ?_ (by simp) (by rw [hm];rfl))
    ·simp only [zo,zl,or_false] at hp
     rcases hp with rfl|rfl|rfl|rfl|rfl|rfl|rfl|rfl|rfl
     ·show conv _ _ _ (.ptr 0 0) (.ptr 0 0)
      simp [conv]
     ·show conv _ _ _ (.ptr 1 0) (.ptr 1 0)
      simp [conv]
     ·show conv _ _ _ (.ptr 2 0) (.ptr 2 0)
      simp [conv]
     ·exact Qb _ _ _ (.sl 1 ((QT.take i).map V.str)) trivial
     ·exact Qb _ _ _ (V.int a) trivial
     ·exact Qb _ _ _ (V.int i) trivial
     ·exact Qb _ _ _ (V.int a) trivial
     ·exact Qb _ _ _ (V.int i) trivial
     ·exact Qb _ _ _ (V.int (j + 1:Nat)) trivial
    ·simp only [hst]
     exact ⟨⟨_,rfl,fun h=>h,Qe _ _ _ _ (Qm _ _)⟩,⟨_,rfl,fun h=>h,by simp [Qu,conv]⟩,⟨_,rfl,fun h=>h,by simp [Qu,conv]⟩,⟨_,rfl,U2 es⟩,⟨_,rfl,fun h=>h,rfl,rfl⟩,⟨_,rfl,fun h=>h,rfl,rfl⟩,trivial⟩
  rcases f5:decide ((ed.length:Int) < 3) with _|_
  ·have hv:¬ (v > 0∧ed.length < 3):=fun h=>by simp at f5;omega
   rw [if_neg hv] at hst
   (have zx:=za f2 (za f3 (za f4 (za f5 hwj))));refine zgo ?_;repeat' first|exact zt|apply zan|intro hc
   all_goals
    refine hM _ (j + 1) (by omega) (by omega) (Vn [0,1,2,3,4,5] none (fun p hp=>?_) ?_ (by simp) (by rw [hm];rfl))
    ·simp only [zo,zl,or_false] at hp
     rcases hp with rfl|rfl|rfl|rfl|rfl|rfl|rfl|rfl|rfl
     ·show conv _ _ _ (.ptr 0 0) (.ptr 0 0)
      simp [conv]
     ·show conv _ _ _ (.ptr 1 0) (.ptr 1 0)
      simp [conv]
     ·show conv _ _ _ (.ptr 2 0) (.ptr 2 0)
      simp [conv]
     ·exact Qb _ _ _ (.sl 1 ((QT.take i).map V.str)) trivial
     ·exact Qb _ _ _ (V.int a) trivial
     ·exact Qb _ _ _ (V.int i) trivial
     ·exact Qb _ _ _ (V.int a) trivial
     ·exact Qb _ _ _ (V.int i) trivial
     ·exact Qb _ _ _ (V.int (j + 1:Nat)) trivial
    ·simp only [hst]
     exact ⟨⟨_,rfl,fun h=>h,Qe _ _ _ _ (Qm _ _)⟩,⟨_,rfl,fun h=>h,by simp [Qu,conv]⟩,⟨_,rfl,fun h=>h,by simp [Qu,conv]⟩,⟨_,rfl,U2 es⟩,⟨_,rfl,fun h=>h,rfl,rfl⟩,⟨_,rfl,fun h=>h,rfl,rfl⟩,trivial⟩
  have hv:v > 0∧ed.length < 3:=by simp at f4 f5;omega
  rw [if_pos hv] at hst
  have b1:(ed.length + 1) * 2≤2 ^ 40:=by omega
  have b2:ed.length + 1≤2 ^ 40:=by omega
  (have zx:=za f2 (za f3 (za f4 (za f5 (za hwj (za hel (za hte (za b1 b2))))))));refine zgo ?_;repeat' first|exact zt|apply zan|intro hc
  all_goals
   refine hM _ (j + 1) (by omega) (by omega) (Vn [0,1,2,3,23006,5] none (fun p hp=>?_) ?_ (by simp) (by rw [hm];rfl))
   ·simp only [zo,zl,or_false] at hp
    rcases hp with rfl|rfl|rfl|rfl|rfl|rfl|rfl|rfl|rfl
    ·show conv _ _ _ (.ptr 0 0) (.ptr 0 0)
     simp [conv]
    ·show conv _ _ _ (.ptr 1 0) (.ptr 1 0)
     simp [conv]
    ·show conv _ _ _ (.ptr 2 0) (.ptr 2 0)
     simp [conv]
    ·exact Qb _ _ _ (.sl 1 ((QT.take i).map V.str)) trivial
    ·exact Qb _ _ _ (V.int a) trivial
    ·exact Qb _ _ _ (V.int i) trivial
    ·exact Qb _ _ _ (V.int a) trivial
    ·exact Qb _ _ _ (V.int i) trivial
    ·exact Qb _ _ _ (V.int (j + 1:Nat)) trivial
   ·simp only [hst]
    exact ⟨⟨_,rfl,fun h=>h,Qe _ _ _ _ (Qm _ _)⟩,⟨_,rfl,fun h=>h,by simp [Qu,conv]⟩,⟨_,rfl,fun h=>h,by simp [Qu,conv]⟩,⟨_,rfl,U2 es⟩,⟨_,rfl,fun h=>h,rfl,by simp [QK,V.int]⟩,⟨_,rfl,fun h=>h,rfl,rfl⟩,trivial⟩
 obtain rfl:a = i:=by omega
 have f1:decide ((a:Int) < (a:Int)) = false:=zp (by omega)
 clear hL
 have n2:=z1 l (aay l a ([],qe) a).2 3 hl oe1
 have r2:=QU (l:=l) (k:=(aay l a ([],qe) a).2) (n:=3) (by omega) (by omega)
 have k2:=JX (n:=3) oe1
 simp only [atP]
 generalize aay l a ([],qe) a = s0 at *
 obtain ⟨ed,qd⟩:=s0
 simp only at oe1 oe2 n2 r2 k2 ⊢
 generalize Jf l qd 3 = xm at *
 obtain ⟨m0,qm⟩:=xm
 simp only at n2 r2 k2 ⊢
 obtain ⟨m,rfl⟩:∃ m:Nat,m0 = m:=⟨m0.toNat,by omega⟩
 rw [Int.toNat_natCast]
 simp only [Yv,zy,zw] at n2
 have hel:(ed.map QK).length = ed.length:=zb _
 rcases hed:ed with _|⟨y,r⟩
 ·subst hed
  have z0:(((0:Nat):Int) == 0) = true:=rfl
  have hF:ake [] = [(0,1)]:=rfl
  rw [hF]
  simp only [zw,List.length_nil]
  (have zx:=za f1 z0);refine zgo ?_;repeat' first|exact zt|apply zan|intro hc
  refine V7 (ι:=Nat) (fun j=>j≤m) (fun j=>asm l es [(0,1)] (m - j) (Yn l qm j)) (fun j=>m - j) 0 (zA _) ?_ fun j hj K4 hL=>?_
  ·refine Vn [0,1,2,3,6006,5] none (fun p hp=>?_) ?_ (by simp) (by rw [hm];rfl)
   ·simp only [zo,zl,or_false] at hp
    rcases hp with rfl|rfl|rfl|rfl
    ·show conv _ _ _ (.ptr 0 0) (.ptr 0 0)
     simp [conv]
    ·show conv _ _ _ (.ptr 1 0) (.ptr 1 0)
     simp [conv]
    ·show conv _ _ _ (.ptr 2 0) (.ptr 2 0)
     simp [conv]
    ·exact Qb _ _ _ (V.int (m - 0:Nat)) trivial
   ·exact ⟨⟨_,rfl,fun h=>h,Qe _ _ _ _ (Qm _ _)⟩,⟨_,rfl,fun h=>h,by simp [Qu,conv]⟩,⟨_,rfl,fun h=>h,by simp [Qu,conv,Yn]⟩,⟨_,rfl,U2 es⟩,⟨_,rfl,fun h=>h,rfl,rfl⟩,⟨_,rfl,fun h=>h,rfl,rfl⟩,trivial⟩
  obtain ⟨ik1,ik2,ik3⟩:=abc (l:=l) k2 j
  rcases kR j m with hlt|hge
  ·have g1:decide (((m - j:Nat):Int) > 0) = true:=by simp;omega
   have hwm:IntKind.i64.wrap (((m - j:Nat):Int) - 1) = ((m - (j + 1):Nat):Int):=by rw [Q9 (by omega) (by omega)];omega
   have hst:Yn l qm (j + 1) = ((Yn l qm j).1++[(abd l (qB l (Yn l qm j).2 [[98,97,99,107,117,112],[100,101,101,100]]).2 (qB l (Yn l qm j).2 [[98,97,99,107,117,112],[100,101,101,100]]).1).1],(abd l (qB l (Yn l qm j).2 [[98,97,99,107,117,112],[100,101,101,100]]).2 (qB l (Yn l qm j).2 [[98,97,99,107,117,112],[100,101,101,100]]).1).2):=rfl
   simp only [asm]
   generalize Yn l qm j = s1 at *
   obtain ⟨its,q⟩:=s1
   simp only at ik1 ik2 ik3 hst ⊢
   have nW:=z6 l q [[98,97,99,107,117,112],[100,101,101,100]] hl ik1 (by decide) (by decide)
   have kW:=agz (xs:=[[98,97,99,107,117,112],[100,101,101,100]]) ik1
   generalize qB l q [[98,97,99,107,117,112],[100,101,101,100]] = xw at *
   obtain ⟨w,qw⟩:=xw
   simp only at nW kW hst
   have nI:=z7 l qw w hl kW
   generalize abd l qw w = xi at *
   obtain ⟨it,qi⟩:=xi
   simp only [Yv,zy,zw,Jh.v,Jh.cells] at nW nI hst
   have hil:(its.map Jh.v).length = its.length:=zb _
   have hti:List.take its.length (its.map Jh.v) = its.map Jh.v:=zi (by simp)
   have b1:(its.length + 1) * 5≤2 ^ 40:=by omega
   have b2:its.length + 1≤2 ^ 40:=by omega
   have hobi:its = []∧obI its = .buf true 5 []∨obI its = .obuf true 5 (its.map Jh.v):=by
    rcases its with _|⟨y,r⟩
    ·exact .inl ⟨rfl,rfl⟩
    ·exact .inr (by rw [obI,if_neg (by simp)])
   rcases hobi with ⟨rfl,hobi⟩|hobi
   ·simp only [zw,List.length_nil] at *
    (have zx:=za g1 (za hwm hobi));refine zgo ?_;repeat' first|exact zt|apply zan|intro hc
    all_goals
     refine hL _ (j + 1) (by omega) (by omega) (Vn [0,1,2,3,4,10006] none (fun p hp=>?_) ?_ (by simp) (by rw [hm];rfl))
     ·simp only [zo,zl,or_false] at hp
      rcases hp with rfl|rfl|rfl|rfl
      ·show conv _ _ _ (.ptr 0 0) (.ptr 0 0)
       simp [conv]
      ·show conv _ _ _ (.ptr 1 0) (.ptr 1 0)
       simp [conv]
      ·show conv _ _ _ (.ptr 2 0) (.ptr 2 0)
       simp [conv]
      ·exact Qb _ _ _ (V.int (m - (j + 1):Nat)) trivial
     ·simp only [hst,aez,agP]
      exact ⟨⟨_,rfl,fun h=>h,Qe _ _ _ _ (Qm _ _)⟩,⟨_,rfl,fun h=>h,by simp [Qu,conv]⟩,⟨_,rfl,fun h=>h,by simp [Qu,conv]⟩,⟨_,rfl,U2 es⟩,⟨_,rfl,fun h=>h,rfl,rfl⟩,⟨_,rfl,fun h=>h,rfl,⟨Qe _ _ _ _ (by simp only [Jh.v,Jh.cells,V.cells,Qd,V.closed,and_self]),trivial⟩⟩,trivial⟩
   ·(have zx:=za g1 (za hwm (za hobi (za hil (za hti (za b1 b2))))));refine zgo ?_;repeat' first|exact zt|apply zan|intro hc
    all_goals
     refine hL _ (j + 1) (by omega) (by omega) (Vn [0,1,2,3,4,10006] none (fun p hp=>?_) ?_ (by simp) (by rw [hm];rfl))
     ·simp only [zo,zl,or_false] at hp
      rcases hp with rfl|rfl|rfl|rfl
      ·show conv _ _ _ (.ptr 0 0) (.ptr 0 0)
       simp [conv]
      ·show conv _ _ _ (.ptr 1 0) (.ptr 1 0)
       simp [conv]
      ·show conv _ _ _ (.ptr 2 0) (.ptr 2 0)
       simp [conv]
      ·exact Qb _ _ _ (V.int (m - (j + 1):Nat)) trivial
     ·simp only [hst,aez,agP]
      exact ⟨⟨_,rfl,fun h=>h,Qe _ _ _ _ (Qm _ _)⟩,⟨_,rfl,fun h=>h,by simp [Qu,conv]⟩,⟨_,rfl,fun h=>h,by simp [Qu,conv]⟩,⟨_,rfl,U2 es⟩,⟨_,rfl,fun h=>h,rfl,rfl⟩,⟨_,rfl,fun h=>h,rfl,aag (ys:=[_]) (zs:=[_]) ⟨Qe _ _ _ _ (by simp only [Jh.v,Jh.cells,V.cells,Qd,V.closed,and_self]),trivial⟩ its⟩,trivial⟩
  obtain rfl:j = m:=by omega
  have g1:decide (((j - j:Nat):Int) > 0) = false:=by simp
  clear hL
  simp only [asm]
  generalize Yn l qm j = s1 at *
  obtain ⟨its,q⟩:=s1
  simp only
  (have zx:=g1);refine zgo ?_;repeat' first|exact zt|apply zan|intro hc
  all_goals
   refine v8 _ rfl rfl (Qm l q) ?_
   show conv _ _ _ (.agg [.hd 3 0 es.length,.hd 4 0 1,.hd 5 0 its.length]) (.agg [.sl 9 (es.map JG.v),.sl 2 ([(0,1)].map QK),.sl 5 (its.map Jh.v)])
   refine ⟨akY (by decide) rfl,?_,akX (by decide) rfl,trivial⟩
   rw [x6]
   exact ⟨trivial,by decide,.inl ⟨true,_,rfl,by rw [zZ];first|rfl|exact (zi (by simp)).symm⟩⟩
 ·rw [← hed]
  have z0:((ed.length:Int) == 0) = false:=by rw [hed,List.length_cons,Zb];omega
  have hF:ake ed = ed:=by rw [ake,hed,if_neg (by simp)]
  rw [hF]
  clear hed hF
  (have zx:=za f1 (za z0 hel));refine zgo ?_;repeat' first|exact zt|apply zan|intro hc
  refine V7 (ι:=Nat) (fun j=>j≤m) (fun j=>asm l es ed (m - j) (Yn l qm j)) (fun j=>m - j) 0 (zA _) ?_ fun j hj K4 hL=>?_
  ·refine Vn [0,1,2,3,4,5] none (fun p hp=>?_) ?_ (by simp) (by rw [hm];rfl)
   ·simp only [zo,zl,or_false] at hp
    rcases hp with rfl|rfl|rfl|rfl
    ·show conv _ _ _ (.ptr 0 0) (.ptr 0 0)
     simp [conv]
    ·show conv _ _ _ (.ptr 1 0) (.ptr 1 0)
     simp [conv]
    ·show conv _ _ _ (.ptr 2 0) (.ptr 2 0)
     simp [conv]
    ·exact Qb _ _ _ (V.int (m - 0:Nat)) trivial
   ·exact ⟨⟨_,rfl,fun h=>h,Qe _ _ _ _ (Qm _ _)⟩,⟨_,rfl,fun h=>h,by simp [Qu,conv]⟩,⟨_,rfl,fun h=>h,by simp [Qu,conv,Yn]⟩,⟨_,rfl,U2 es⟩,⟨_,rfl,fun h=>h,rfl,rfl⟩,⟨_,rfl,fun h=>h,rfl,rfl⟩,trivial⟩
  obtain ⟨ik1,ik2,ik3⟩:=abc (l:=l) k2 j
  rcases kR j m with hlt|hge
  ·have g1:decide (((m - j:Nat):Int) > 0) = true:=by simp;omega
   have hwm:IntKind.i64.wrap (((m - j:Nat):Int) - 1) = ((m - (j + 1):Nat):Int):=by rw [Q9 (by omega) (by omega)];omega
   have hst:Yn l qm (j + 1) = ((Yn l qm j).1++[(abd l (qB l (Yn l qm j).2 [[98,97,99,107,117,112],[100,101,101,100]]).2 (qB l (Yn l qm j).2 [[98,97,99,107,117,112],[100,101,101,100]]).1).1],(abd l (qB l (Yn l qm j).2 [[98,97,99,107,117,112],[100,101,101,100]]).2 (qB l (Yn l qm j).2 [[98,97,99,107,117,112],[100,101,101,100]]).1).2):=rfl
   simp only [asm]
   generalize Yn l qm j = s1 at *
   obtain ⟨its,q⟩:=s1
   simp only at ik1 ik2 ik3 hst ⊢
   have nW:=z6 l q [[98,97,99,107,117,112],[100,101,101,100]] hl ik1 (by decide) (by decide)
   have kW:=agz (xs:=[[98,97,99,107,117,112],[100,101,101,100]]) ik1
   generalize qB l q [[98,97,99,107,117,112],[100,101,101,100]] = xw at *
   obtain ⟨w,qw⟩:=xw
   simp only at nW kW hst
   have nI:=z7 l qw w hl kW
   generalize abd l qw w = xi at *
   obtain ⟨it,qi⟩:=xi
   simp only [Yv,zy,zw,Jh.v,Jh.cells] at nW nI hst
   have hil:(its.map Jh.v).length = its.length:=zb _
   have hti:List.take its.length (its.map Jh.v) = its.map Jh.v:=zi (by simp)
   have b1:(its.length + 1) * 5≤2 ^ 40:=by omega
   have b2:its.length + 1≤2 ^ 40:=by omega
   have hobi:its = []∧obI its = .buf true 5 []∨obI its = .obuf true 5 (its.map Jh.v):=by
    rcases its with _|⟨y,r⟩
    ·exact .inl ⟨rfl,rfl⟩
    ·exact .inr (by rw [obI,if_neg (by simp)])
   rcases hobi with ⟨rfl,hobi⟩|hobi
   ·simp only [zw,List.length_nil] at *
    (have zx:=za g1 (za hwm hobi));refine zgo ?_;repeat' first|exact zt|apply zan|intro hc
    all_goals
     refine hL _ (j + 1) (by omega) (by omega) (Vn [0,1,2,3,4,10006] none (fun p hp=>?_) ?_ (by simp) (by rw [hm];rfl))
     ·simp only [zo,zl,or_false] at hp
      rcases hp with rfl|rfl|rfl|rfl
      ·show conv _ _ _ (.ptr 0 0) (.ptr 0 0)
       simp [conv]
      ·show conv _ _ _ (.ptr 1 0) (.ptr 1 0)
       simp [conv]
      ·show conv _ _ _ (.ptr 2 0) (.ptr 2 0)
       simp [conv]
      ·exact Qb _ _ _ (V.int (m - (j + 1):Nat)) trivial
     ·simp only [hst,aez,agP]
      exact ⟨⟨_,rfl,fun h=>h,Qe _ _ _ _ (Qm _ _)⟩,⟨_,rfl,fun h=>h,by simp [Qu,conv]⟩,⟨_,rfl,fun h=>h,by simp [Qu,conv]⟩,⟨_,rfl,U2 es⟩,⟨_,rfl,fun h=>h,rfl,rfl⟩,⟨_,rfl,fun h=>h,rfl,⟨Qe _ _ _ _ (by simp only [Jh.v,Jh.cells,V.cells,Qd,V.closed,and_self]),trivial⟩⟩,trivial⟩
   ·(have zx:=za g1 (za hwm (za hobi (za hil (za hti (za b1 b2))))));refine zgo ?_;repeat' first|exact zt|apply zan|intro hc
    all_goals
     refine hL _ (j + 1) (by omega) (by omega) (Vn [0,1,2,3,4,10006] none (fun p hp=>?_) ?_ (by simp) (by rw [hm];rfl))
     ·simp only [zo,zl,or_false] at hp
      rcases hp with rfl|rfl|rfl|rfl
      ·show conv _ _ _ (.ptr 0 0) (.ptr 0 0)
       simp [conv]
      ·show conv _ _ _ (.ptr 1 0) (.ptr 1 0)
       simp [conv]
      ·show conv _ _ _ (.ptr 2 0) (.ptr 2 0)
       simp [conv]
      ·exact Qb _ _ _ (V.int (m - (j + 1):Nat)) trivial
     ·simp only [hst,aez,agP]
      exact ⟨⟨_,rfl,fun h=>h,Qe _ _ _ _ (Qm _ _)⟩,⟨_,rfl,fun h=>h,by simp [Qu,conv]⟩,⟨_,rfl,fun h=>h,by simp [Qu,conv]⟩,⟨_,rfl,U2 es⟩,⟨_,rfl,fun h=>h,rfl,rfl⟩,⟨_,rfl,fun h=>h,rfl,aag (ys:=[_]) (zs:=[_]) ⟨Qe _ _ _ _ (by simp only [Jh.v,Jh.cells,V.cells,Qd,V.closed,and_self]),trivial⟩ its⟩,trivial⟩
  obtain rfl:j = m:=by omega
  have g1:decide (((j - j:Nat):Int) > 0) = false:=by simp
  clear hL
  simp only [asm]
  generalize Yn l qm j = s1 at *
  obtain ⟨its,q⟩:=s1
  simp only
  (have zx:=g1);refine zgo ?_;repeat' first|exact zt|apply zan|intro hc
  all_goals
   refine v8 _ rfl rfl (Qm l q) ?_
   show conv _ _ _ (.agg [.hd 3 0 es.length,.hd 4 0 ed.length,.hd 5 0 its.length]) (.agg [.sl 9 (es.map JG.v),.sl 2 (ed.map QK),.sl 5 (its.map Jh.v)])
   refine ⟨akY (by decide) rfl,?_,akX (by decide) rfl,trivial⟩
   rw [x6]
   exact ⟨trivial,by decide,.inl ⟨true,_,rfl,by rw [zZ];first|rfl|exact (zi (by simp)).symm⟩⟩
end Av
end
