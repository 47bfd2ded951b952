/- K9 -/
import Derived.Test.YtddmiolapkhaoaaGreatDoorK8
import Derived.KernelRfl
set_option linter.unusedVariables false
set_option linter.unusedSimpArgs false
section
set_option maxRecDepth 10000
set_option maxHeartbeats 4000000
namespace Av
open Go
attribute [local irreducible] AWp U3 abh acE awS awC ajc awQ ajv Jo jG aiB awR yv awB okR ad1 ris
def awV (a n:Int):Int:=if n < 1 then 0 else (IntKind.i64.wrap (a.tmod n + n)).tmod n
def amf:AC:=Qb [0,1] (.reg [mc 4 (V.int 0)]) (Qb [0,1] (Qb [0,1,6] (.reg [mv 5 1,bc 6 .lss 5 (V.int 1)]) (.cond (.t 6) (Qb [4] (.reg [mc 4 (V.int 0)]) .ret) .skip)) (Qb [4] (.reg [mv 7 0,mv 8 1,bn 9 .rem 7 8,mv 10 1,bn 11 .add 9 10,mv 12 1,bn 13 .rem 11 12,mv 4 13]) .ret)) def bv:List Q0:=[.tmp 4]
def afv (Γ:Env) (f:Nat):Prop:=∀ (a n:Int),EvN Γ f [V.int a,V.int n] (V.int (awV a n))
theorem aqk {Γ:Env} {f:Nat} (h:Has Γ.P f 14 amf bv) :afv Γ f:=by
 intro a n
 refine Qc h zsi zcl zcl fun C hC hm=>?_
 subst hC
 unfold amf
 refine zgo ?_;repeat' first|exact zt|apply zan|intro hc
 ·refine Qr _ rfl ?_
  simp only [go_sem]
  simp [awV,hc]
 ·refine Qr _ rfl ?_
  simp only [go_sem]
  simp [awV,hc]
def vC (x:Int):Nat→List Int→Int
 | _,[]=>-1
 | k,y :: r=>if x = y then k else vC x (k + 1) r
def UW:AC:=Qb [0,1] (.reg [mc 4 (V.int 0)]) (Qb [] (Qb [0,1,7,8] (.reg [mv 6 0,ln 7 6,mc 8 (V.int 0)]) (.block 0 (JG [0,1,7,8] (Qb [0,1,7,8,9] (.reg [bn 9 .lss 8 7]) (Qb [0,1,7,8] (.cond (.t 9) .skip (.exit 0)) (Qb [0,1,7,8] (.block 1 (Qb [0,1,5,7,8] (.reg [mv 10 8,mv 5 10]) (Qb [0,1,5,7,8,16] (.reg [mv 11 1,mv 12 0,mv 13 5,ia 14 1 12 13,ld 15 1 14,bn 16 .eql 11 15]) (.cond (.t 16) (Qb [4] (.reg [mv 17 5,mv 4 17]) .ret) .skip)))) (.reg [bc 18 .add 8 (V.int 1),mv 8 18]))))))) (Qb [4] (.reg [mc 4 (V.int (-1))]) .ret)) def bx:List Q0:=[.tmp 4]
def Xj (Γ:Env) (f:Nat):Prop:=∀ (l:List Int) (x:Int) (hl:l.length < 2 ^ 62),EvN Γ f [.sl 1 (l.map V.int),V.int x] (V.int (vC x 0 l))
theorem vD {Γ:Env} {f:Nat} (h:Has Γ.P f 19 UW bx) :Xj Γ f:=by
 intro l x hl
 refine Qc h zsi zcl zcl fun C hC hm=>?_
 subst hC
 unfold UW
 refine zgo ?_;repeat' first|exact zt|apply zan|intro hc
 refine Jc (ι:=Nat) (fun k=>k≤l.length∧vC x k (l.drop k) = vC x 0 l) (fun k=>[(8,V.int k)]) (fun k=>l.length - k) 0 (by omega) ⟨by simp,by simp⟩ zol zlt zet fun k hk K' hL=>?_
 obtain ⟨hk,hinv⟩:=hk
 simp only [ovT,Xr,Nat.reduceEqDiff,reduceIte]
 rcases hd:l.drop k with _|⟨y,r⟩
 ·have:=QY hd
  rw [hd] at hinv
  refine zgo ?_;repeat' first|exact zt|apply zan|intro hc
  refine Qr _ rfl ?_
  simp only [go_sem]
  rw [← hinv];rfl
 ·obtain ⟨hk,hget,hr⟩:=QJ hd
  rw [hd] at hinv
  have hw:=Qq (k:=k) (by omega)
  (have zx:=za hget hw);refine zgo ?_;repeat' first|exact zt|apply zan|intro hc
  ·refine Qr _ rfl ?_
   simp only [go_sem]
   rw [← hinv];simp [vC,hc]
  ·refine hL _ (k + 1) zet ⟨by omega,?_⟩ (by omega) (fun a ha=>rfl)
   rw [hr,← hinv];simp [vC,hc]
def Vz (QV:Nat):AC:=Qb [0,1] (.reg [mc 4 (V.bool false)]) (Qb [4] (.reg [mv 5 0,mv 6 1,cl 7 QV [5,6],bc 8 .geq 7 (V.int 0),mv 4 8]) .ret) def bA:List Q0:=[.tmp 4]
def XS (Γ:Env) (f:Nat):Prop:=∀ (l:List Int) (x:Int) (hl:l.length < 2 ^ 62),EvN Γ f [.sl 1 (l.map V.int),V.int x] (V.bool (decide (vC x 0 l≥0)))
theorem yq {Γ:Env} {f QV:Nat} (h:Has Γ.P f 9 (Vz QV) bA) (z0:Xj Γ QV):XS Γ f:=by
 intro l x hl
 refine Qc h zsi zcl zcl fun C hC hm=>?_
 subst hC
 unfold Vz
 refine zgo ?_;repeat' first|exact zt|apply zan|intro hc
 refine Qr _ rfl ?_
 simp only [go_sem]
structure ajw where
 name:List UInt8
 kind:Int
 way:Int
 sizes:List Int
 strengths:List Int
 deriving DecidableEq
def ajw.v (r:ajw):List V:=[V.str r.name,V.int r.kind,V.int r.way,.sl 1 (r.sizes.map V.int),.sl 1 (r.strengths.map V.int)]
def aqS:ajw:=⟨[],0,0,[],[]⟩
def K4:List ajw:=[aqS,⟨[109,100,53],1,0,[],[18]⟩,⟨[115,104,97,49],1,0,[],[60]⟩,⟨[115,104,97,50,53,54],1,0,[],[128]⟩,⟨[115,104,97,51,56,52],1,0,[],[192]⟩,⟨[114,115,97],2,1,[],[]⟩,⟨[100,115,97],2,1,[],[]⟩,⟨[101,99,100,115,97],2,2,[],[]⟩,⟨[101,100,50,53,53,49,57],2,0,[],[128]⟩,⟨[109,108,100,115,97],2,3,[44,65,87],[128,192,256]⟩,⟨[114,115,97,107,120],3,1,[],[]⟩,⟨[100,104,101],3,1,[],[]⟩,⟨[101,99,100,104,101],3,2,[],[]⟩,⟨[109,108,107,101,109],3,3,[512,768,1024],[128,192,256]⟩,⟨[114,99,52],4,3,[40,128],[40,60]⟩,⟨[100,101,115,51],4,3,[112,168],[80,112]⟩,⟨[97,101,115,99,98,99],4,3,[128,256],[128,256]⟩,⟨[97,101,115,103,99,109],4,3,[128,256],[128,256]⟩,⟨[99,104,97,99,104,97],4,0,[],[256]⟩,⟨[104,109,97,99,109,100,53],5,0,[],[64]⟩,⟨[104,109,97,99,115,104,97,49],5,0,[],[80]⟩,⟨[104,109,97,99,115,104,97,50,53,54],5,0,[],[128]⟩,⟨[97,101,97,100],5,0,[],[256]⟩]
def apI:List V:=K4.flatMap ajw.v
def X7 (a:Int):ajw:=if 1≤a∧a≤22 then K4.getD a.toNat aqS else aqS
theorem al2 {α β:Type} {f:α→List β} {n:Nat} (h:∀ x,(f x).length = n):∀ (l:List α) (k:Nat) (hk:k < l.length),((l.flatMap f).drop (k * n)).take n = f l[k]
 | [],k,hk=>by simp at hk
 | x :: l,0,_=>by simp [List.take_append_of_le_length,h x]
 | x :: l,k + 1,hk=>by
   have e:(k + 1) * n = (f x).length + k * n:=by rw [h x,zQ];omega
   rw [List.flatMap_cons,e,← Zg,List.drop_left]
   exact al2 h l k (by simpa using hk)
theorem atr:apI.length = 115:=rfl
theorem aqP (a:Int) (h1:1≤a) (h2:a≤22):(apI.drop (a.toNat * 5)).take 5 = (X7 a).v:=by
 have hl:K4.length = 23:=rfl
 have hk:a.toNat < K4.length:=by omega
 rw [apI,al2 (f:=ajw.v) (n:=5) (fun _=>rfl) K4 a.toNat hk,X7,if_pos ⟨h1,h2⟩,zB,zb hk,Option.getD_some]
theorem asM (r:ajw):Qh r.v:=by simp [ajw.v,Qh,V.closed]
theorem aqv:Qh apI:=asN (by
 simp only [apI,List.mem_flatMap]
 rintro v ⟨r,_,hr⟩
 simp [ajw.v] at hr
 rcases hr with rfl|rfl|rfl|rfl|rfl<;>trivial)
def aeO:AC:=Qb [0] (.reg [xo 0 (.alloc [.val vs0,.val vi0,.val vi0,.nil 1,.nil 1,.val vs0,.val vi0,.val vi0,.nil 1,.nil 1,.val vs0,.val vi0,.val vi0,.nil 1,.nil 1,.val vs0,.val vi0,.val vi0,.nil 1,.nil 1,.val vs0,.val vi0,.val vi0,.nil 1,.nil 1,.val vs0,.val vi0,.val vi0,.nil 1,.nil 1,.val vs0,.val vi0,.val vi0,.nil 1,.nil 1,.val vs0,.val vi0,.val vi0,.nil 1,.nil 1,.val vs0,.val vi0,.val vi0,.nil 1,.nil 1,.val vs0,.val vi0,.val vi0,.nil 1,.nil 1,.val vs0,.val vi0,.val vi0,.nil 1,.nil 1,.val vs0,.val vi0,.val vi0,.nil 1,.nil 1,.val vs0,.val vi0,.val vi0,.nil 1,.nil 1,.val vs0,.val vi0,.val vi0,.nil 1,.nil 1,.val vs0,.val vi0,.val vi0,.nil 1,.nil 1,.val vs0,.val vi0,.val vi0,.nil 1,.nil 1,.val vs0,.val vi0,.val vi0,.nil 1,.nil 1,.val vs0,.val vi0,.val vi0,.nil 1,.nil 1,.val vs0,.val vi0,.val vi0,.nil 1,.nil 1,.val vs0,.val vi0,.val vi0,.nil 1,.nil 1,.val vs0,.val vi0,.val vi0,.nil 1,.nil 1,.val vs0,.val vi0,.val vi0,.nil 1,.nil 1,.val vs0,.val vi0,.val vi0,.nil 1,.nil 1])]) (Qb [0] (.reg [xo 1 (.bslice 1 1 false [vi0] [(0,(.c (V.int 18)))]),xo 2 (.build [vs0,vi0,vi0,vn0,vn0] [(0,1,(.c (V.str [109,100,53]))),(1,1,(.c (V.int 1))),(2,1,(.c (V.int 0))),(3,1,(.c (.sc vn0))),(4,1,(.t 1))]),xo 3 (.bslice 1 1 false [vi0] [(0,(.c (V.int 60)))]),xo 4 (.build [vs0,vi0,vi0,vn0,vn0] [(0,1,(.c (V.str [115,104,97,49]))),(1,1,(.c (V.int 1))),(2,1,(.c (V.int 0))),(3,1,(.c (.sc vn0))),(4,1,(.t 3))]),xo 5 (.bslice 1 1 false [vi0] [(0,(.c (V.int 128)))]),xo 6 (.build [vs0,vi0,vi0,vn0,vn0] [(0,1,(.c (V.str [115,104,97,50,53,54]))),(1,1,(.c (V.int 1))),(2,1,(.c (V.int 0))),(3,1,(.c (.sc vn0))),(4,1,(.t 5))]),xo 7 (.bslice 1 1 false [vi0] [(0,(.c (V.int 192)))]),xo 8 (.build [vs0,vi0,vi0,vn0,vn0] [(0,1,(.c (V.str [115,104,97,51,56,52]))),(1,1,(.c (V.int 1))),(2,1,(.c (V.int 0))),(3,1,(.c (.sc vn0))),(4,1,(.t 7))]),xo 9 (.build [vs0,vi0,vi0,vn0,vn0] [(0,1,(.c (V.str [114,115,97]))),(1,1,(.c (V.int 2))),(2,1,(.c (V.int 1))),(3,1,(.c (.sc vn0))),(4,1,(.c (.sc vn0)))]),xo 10 (.build [vs0,vi0,vi0,vn0,vn0] [(0,1,(.c (V.str [100,115,97]))),(1,1,(.c (V.int 2))),(2,1,(.c (V.int 1))),(3,1,(.c (.sc vn0))),(4,1,(.c (.sc vn0)))]),xo 11 (.build [vs0,vi0,vi0,vn0,vn0] [(0,1,(.c (V.str [101,99,100,115,97]))),(1,1,(.c (V.int 2))),(2,1,(.c (V.int 2))),(3,1,(.c (.sc vn0))),(4,1,(.c (.sc vn0)))]),xo 12 (.bslice 1 1 false [vi0] [(0,(.c (V.int 128)))]),xo 13 (.build [vs0,vi0,vi0,vn0,vn0] [(0,1,(.c (V.str [101,100,50,53,53,49,57]))),(1,1,(.c (V.int 2))),(2,1,(.c (V.int 0))),(3,1,(.c (.sc vn0))),(4,1,(.t 12))]),xo 14 (.bslice 3 1 false [vi0] [(0,(.c (V.int 44))),(1,(.c (V.int 65))),(2,(.c (V.int 87)))]),xo 15 (.bslice 3 1 false [vi0] [(0,(.c (V.int 128))),(1,(.c (V.int 192))),(2,(.c (V.int 256)))]),xo 16 (.build [vs0,vi0,vi0,vn0,vn0] [(0,1,(.c (V.str [109,108,100,115,97]))),(1,1,(.c (V.int 2))),(2,1,(.c (V.int 3))),(3,1,(.t 14)),(4,1,(.t 15))]),xo 17 (.build [vs0,vi0,vi0,vn0,vn0] [(0,1,(.c (V.str [114,115,97,107,120]))),(1,1,(.c (V.int 3))),(2,1,(.c (V.int 1))),(3,1,(.c (.sc vn0))),(4,1,(.c (.sc vn0)))]),xo 18 (.build [vs0,vi0,vi0,vn0,vn0] [(0,1,(.c (V.str [100,104,101]))),(1,1,(.c (V.int 3))),(2,1,(.c (V.int 1))),(3,1,(.c (.sc vn0))),(4,1,(.c (.sc vn0)))]),xo 19 (.build [vs0,vi0,vi0,vn0,vn0] [(0,1,(.c (V.str [101,99,100,104,101]))),(1,1,(.c (V.int 3))),(2,1,(.c (V.int 2))),(3,1,(.c (.sc vn0))),(4,1,(.c (.sc vn0)))]),xo 20 (.bslice 3 1 false [vi0] [(0,(.c (V.int 512))),(1,(.c (V.int 768))),(2,(.c (V.int 1024)))]),xo 21 (.bslice 3 1 false [vi0] [(0,(.c (V.int 128))),(1,(.c (V.int 192))),(2,(.c (V.int 256)))]),xo 22 (.build [vs0,vi0,vi0,vn0,vn0] [(0,1,(.c (V.str [109,108,107,101,109]))),(1,1,(.c (V.int 3))),(2,1,(.c (V.int 3))),(3,1,(.t 20)),(4,1,(.t 21))]),xo 23 (.bslice 2 1 false [vi0] [(0,(.c (V.int 40))),(1,(.c (V.int 128)))]),xo 24 (.bslice 2 1 false [vi0] [(0,(.c (V.int 40))),(1,(.c (V.int 60)))]),xo 25 (.build [vs0,vi0,vi0,vn0,vn0] [(0,1,(.c (V.str [114,99,52]))),(1,1,(.c (V.int 4))),(2,1,(.c (V.int 3))),(3,1,(.t 23)),(4,1,(.t 24))]),xo 26 (.bslice 2 1 false [vi0] [(0,(.c (V.int 112))),(1,(.c (V.int 168)))]),xo 27 (.bslice 2 1 false [vi0] [(0,(.c (V.int 80))),(1,(.c (V.int 112)))]),xo 28 (.build [vs0,vi0,vi0,vn0,vn0] [(0,1,(.c (V.str [100,101,115,51]))),(1,1,(.c (V.int 4))),(2,1,(.c (V.int 3))),(3,1,(.t 26)),(4,1,(.t 27))]),xo 29 (.bslice 2 1 false [vi0] [(0,(.c (V.int 128))),(1,(.c (V.int 256)))]),xo 30 (.bslice 2 1 false [vi0] [(0,(.c (V.int 128))),(1,(.c (V.int 256)))]),xo 31 (.build [vs0,vi0,vi0,vn0,vn0] [(0,1,(.c (V.str [97,101,115,99,98,99]))),(1,1,(.c (V.int 4))),(2,1,(.c (V.int 3))),(3,1,(.t 29)),(4,1,(.t 30))]),xo 32 (.bslice 2 1 false [vi0] [(0,(.c (V.int 128))),(1,(.c (V.int 256)))]),xo 33 (.bslice 2 1 false [vi0] [(0,(.c (V.int 128))),(1,(.c (V.int 256)))]),xo 34 (.build [vs0,vi0,vi0,vn0,vn0] [(0,1,(.c (V.str [97,101,115,103,99,109]))),(1,1,(.c (V.int 4))),(2,1,(.c (V.int 3))),(3,1,(.t 32)),(4,1,(.t 33))]),xo 35 (.bslice 1 1 false [vi0] [(0,(.c (V.int 256)))]),xo 36 (.build [vs0,vi0,vi0,vn0,vn0] [(0,1,(.c (V.str [99,104,97,99,104,97]))),(1,1,(.c (V.int 4))),(2,1,(.c (V.int 0))),(3,1,(.c (.sc vn0))),(4,1,(.t 35))]),xo 37 (.bslice 1 1 false [vi0] [(0,(.c (V.int 64)))]),xo 38 (.build [vs0,vi0,vi0,vn0,vn0] [(0,1,(.c (V.str [104,109,97,99,109,100,53]))),(1,1,(.c (V.int 5))),(2,1,(.c (V.int 0))),(3,1,(.c (.sc vn0))),(4,1,(.t 37))]),xo 39 (.bslice 1 1 false [vi0] [(0,(.c (V.int 80)))]),xo 40 (.build [vs0,vi0,vi0,vn0,vn0] [(0,1,(.c (V.str [104,109,97,99,115,104,97,49]))),(1,1,(.c (V.int 5))),(2,1,(.c (V.int 0))),(3,1,(.c (.sc vn0))),(4,1,(.t 39))]),xo 41 (.bslice 1 1 false [vi0] [(0,(.c (V.int 128)))]),xo 42 (.build [vs0,vi0,vi0,vn0,vn0] [(0,1,(.c (V.str [104,109,97,99,115,104,97,50,53,54]))),(1,1,(.c (V.int 5))),(2,1,(.c (V.int 0))),(3,1,(.c (.sc vn0))),(4,1,(.t 41))]),xo 43 (.bslice 1 1 false [vi0] [(0,(.c (V.int 256)))]),xo 44 (.build [vs0,vi0,vi0,vn0,vn0] [(0,1,(.c (V.str [97,101,97,100]))),(1,1,(.c (V.int 5))),(2,1,(.c (V.int 0))),(3,1,(.c (.sc vn0))),(4,1,(.t 43))]),xo 45 (.build [vs0,vi0,vi0,vn0,vn0,vs0,vi0,vi0,vn0,vn0,vs0,vi0,vi0,vn0,vn0,vs0,vi0,vi0,vn0,vn0,vs0,vi0,vi0,vn0,vn0,vs0,vi0,vi0,vn0,vn0,vs0,vi0,vi0,vn0,vn0,vs0,vi0,vi0,vn0,vn0,vs0,vi0,vi0,vn0,vn0,vs0,vi0,vi0,vn0,vn0,vs0,vi0,vi0,vn0,vn0,vs0,vi0,vi0,vn0,vn0,vs0,vi0,vi0,vn0,vn0,vs0,vi0,vi0,vn0,vn0,vs0,vi0,vi0,vn0,vn0,vs0,vi0,vi0,vn0,vn0,vs0,vi0,vi0,vn0,vn0,vs0,vi0,vi0,vn0,vn0,vs0,vi0,vi0,vn0,vn0,vs0,vi0,vi0,vn0,vn0,vs0,vi0,vi0,vn0,vn0,vs0,vi0,vi0,vn0,vn0,vs0,vi0,vi0,vn0,vn0] [(5,5,(.t 2)),(10,5,(.t 4)),(15,5,(.t 6)),(20,5,(.t 8)),(25,5,(.t 9)),(30,5,(.t 10)),(35,5,(.t 11)),(40,5,(.t 13)),(45,5,(.t 16)),(50,5,(.t 17)),(55,5,(.t 18)),(60,5,(.t 19)),(65,5,(.t 22)),(70,5,(.t 25)),(75,5,(.t 28)),(80,5,(.t 31)),(85,5,(.t 34)),(90,5,(.t 36)),(95,5,(.t 38)),(100,5,(.t 40)),(105,5,(.t 42)),(110,5,(.t 44))]),xs 115 0 45]) .ret) def bC:List Q0:=[.cell 0 true 115]
def xJ (Γ:Env) (f:Nat):Prop:=EvC Γ f [] (.agg apI)
theorem ako {Γ:Env} {f:Nat} (h:Has Γ.P f 46 aeO bC) :xJ Γ f:=by
 refine Ju h zsi (aqv) fun C hC hm=>?_
 subst hC
 unfold aeO
 refine zgo ?_;repeat' first|exact zt|apply zan|intro hc
 refine Qr _ rfl ?_
 simp only [apI,K4,aqS,ajw.v,List.flatMap_cons,List.flatMap_nil,go_sem,Nat.reduceAdd,Nat.reduceMul,Nat.reduceEqDiff,Nat.reduceLeDiff,Nat.reduceLT,Nat.reduceSub,Int.reduceEq,Int.reduceBEq,Int.reduceLT,Int.reduceLE,Int.reduceAdd,Int.reduceToNat,reduceIte,reduceCtorEq]
def aiy (qP:Nat):AC:=Qb [0,2] (.reg [xo 2 (.alloc [.val vs0,.val vi0,.val vi0,.nil 1,.nil 1]),mc 3 (V.bool false)]) (Qb [0,2] (Qb [0,2,9] (.reg [mv 4 0,bc 5 .lss 4 (V.int 1),mv 6 5,mg 7 0 6 false,xg 8 (.bin .gtr (.t 7) (.c (V.int 22))) 6 false,xo 9 (.pick (.t 6) (.c (V.bool true)) (.t 8))]) (.cond (.t 9) (Qb [2,3] (.reg [xo 10 (.build [vs0,vi0,vi0,vn0,vn0] []),xs 5 2 10,mc 3 (V.bool false)]) .ret) .skip)) (Qb [2,3] (.reg [cl 11 qP [],mv 12 0,xo 13 (.idxA true 23 5 (.t 11) (.t 12)),xs 5 2 13,mc 3 (V.bool true)]) .ret)) def bD:List Q0:=[.cell 2 true 5,.tmp 3]
def K0 (Γ:Env) (f:Nat):Prop:=∀ (a:Int),EvC Γ f [V.int a] (.tup [.agg (X7 a).v,V.bool (decide (1≤a∧a≤22))])
theorem anb {Γ:Env} {f qP:Nat} (h:Has Γ.P f 14 (aiy qP) bD) (z0:xJ Γ qP):K0 Γ f:=by
 intro a
 refine Ju h zsi (⟨asM _,trivial,trivial⟩) fun C hC hm=>?_
 subst hC
 unfold aiy
 repeat' (first|(refine zsk ?_;intro K' hK)|refine zsp ?_|(refine zsc ?_ ?_<;>intro hc<;>first|exact znh|try simp only [znz] at hc)|simp (maxSteps:=1000000) only [go_sem]|(refine hK _ ?_;clear hK K')|apply zan|(apply QR;(focus first|exact EvC.b z0))|exact zsq|fail)
 ·refine Qr _ rfl ?_
  rw [X7,if_neg (by omega)]
  simp only [go_sem,ajw.v,aqS,zO,and_self]
  simp;omega
 ·rw [atr];omega
 ·rw [aqP a (by omega) (by omega)];rfl
 ·rw [aqP a (by omega) (by omega)]
  refine Qr _ rfl ?_
  simp only [go_sem,ajw.v,List.length_cons,List.length_nil,go_sem]
  simp;omega
 ·refine Qr _ rfl ?_
  rw [X7,if_neg (by omega)]
  simp only [go_sem,ajw.v,aqS,zO,and_self]
  simp;omega
def asq (b:Int):List (Int×Int)→Int
 | []=>256
 | (x,y) :: r=>if b < x then y else asq b r
def as6:List (Int×Int):=[(1024,56),(2048,80),(3072,112),(7680,128),(15360,192)]
def aaZ:AC:=Qb [0] (.reg [mc 2 (V.int 0)]) (Qb [] (Qb [0,10,11] (.reg [xo 5 (.build [vi0,vi0] [(0,1,(.c (V.int 1024))),(1,1,(.c (V.int 56)))]),xo 6 (.build [vi0,vi0] [(0,1,(.c (V.int 2048))),(1,1,(.c (V.int 80)))]),xo 7 (.build [vi0,vi0] [(0,1,(.c (V.int 3072))),(1,1,(.c (V.int 112)))]),xo 8 (.build [vi0,vi0] [(0,1,(.c (V.int 7680))),(1,1,(.c (V.int 128)))]),xo 9 (.build [vi0,vi0] [(0,1,(.c (V.int 15360))),(1,1,(.c (V.int 192)))]),xo 10 (.build [vi0,vi0,vi0,vi0,vi0,vi0,vi0,vi0,vi0,vi0] [(0,2,(.t 5)),(2,2,(.t 6)),(4,2,(.t 7)),(6,2,(.t 8)),(8,2,(.t 9))]),mc 11 (V.int 0)]) (.block 0 (JG [0,10,11] (Qb [0,10,11,12] (.reg [bc 12 .lss 11 (V.int 5)]) (Qb [0,10,11] (.cond (.t 12) .skip (.exit 0)) (Qb [0,10,11] (.block 1 (Qb [0,4,10,11] (.reg [xo 13 (.idxA true 5 2 (.t 10) (.t 11)),xo 4 (.alloc [.val vi0,.val vi0]),xs 2 4 13]) (Qb [0,4,10,11,17] (.reg [mv 14 0,xo 15 (.iaddrA 2 1 (.t 4) (.c (V.int 0))),ld 16 1 15,bn 17 .lss 14 16]) (.cond (.t 17) (Qb [2] (.reg [xo 18 (.iaddrA 2 1 (.t 4) (.c (V.int 1))),ld 19 1 18,mv 2 19]) .ret) .skip)))) (.reg [bc 20 .add 11 (V.int 1),mv 11 20]))))))) (Qb [2] (.reg [mc 2 (V.int 256)]) .ret)) def bE:List Q0:=[.tmp 2]
def K1 (Γ:Env) (f:Nat):Prop:=∀ (b:Int),EvN Γ f [V.int b] (V.int (asq b as6))
attribute [local go_sem] Int.reduceLE Int.reduceLT Int.reduceToNat in
theorem ags {Γ:Env} {f:Nat} (h:Has Γ.P f 21 aaZ bE) :K1 Γ f:=by
 intro b
 refine Qc h zsi zcl zcl fun C hC hm=>?_
 subst hC
 unfold aaZ
 refine zgo ?_;repeat' first|exact zt|apply zan|intro hc
 refine Jc (ι:=Int) (fun k=>0≤k∧k≤5∧asq b (as6.drop k.toNat) = asq b as6) (fun k=>[(11,V.int k)]) (fun k=>(5 - k).toNat) 0 (by omega) ⟨by simp,by simp,rfl⟩ zol zlt zet fun k hk K' hL=>?_
 obtain ⟨hk0,hk,hinv⟩:=hk
 simp only [ovT,Xr,Nat.reduceEqDiff,reduceIte]
 rcases (by omega:k = 0∨k = 1∨k = 2∨k = 3∨k = 4∨k = 5) with rfl|rfl|rfl|rfl|rfl|rfl
 all_goals refine zgo ?_;repeat' first|exact zt|apply zan|intro hc
 all_goals first
  | (refine Qr _ rfl ?_;simp only [go_sem];rw [← hinv];first|rfl|simp [as6,asq,hc])
  | (refine hL _ 1 zet ⟨by omega,by omega,?_⟩ (by decide) zoe;rw [← hinv];simp [as6,asq,hc])
  | (refine hL _ 2 zet ⟨by omega,by omega,?_⟩ (by decide) zoe;rw [← hinv];simp [as6,asq,hc])
  | (refine hL _ 3 zet ⟨by omega,by omega,?_⟩ (by decide) zoe;rw [← hinv];simp [as6,asq,hc])
  | (refine hL _ 4 zet ⟨by omega,by omega,?_⟩ (by decide) zoe;rw [← hinv];simp [as6,asq,hc])
  | (refine hL _ 5 zet ⟨by omega,by omega,?_⟩ (by decide) zoe;rw [← hinv];simp [as6,asq,hc])
def aeQ (Ya:Nat):AC:=Qb [0] (.reg [mc 2 (V.str [])]) (Qb [3] (.reg [mv 6 0,cl 7 Ya [6],mv 5 7,ex 8 5 0,ex 9 5 1,xo 3 (.alloc [.val vs0,.val vi0,.val vi0,.nil 1,.nil 1]),xs 5 3 8,mv 4 9]) (Qb [2] (.reg [fa 10 0 3,ld 11 1 10,mv 2 11]) .ret)) def bF:List Q0:=[.tmp 2]
def xL (Γ:Env) (f:Nat):Prop:=∀ (a:Int),EvN Γ f [V.int a] (V.str (X7 a).name)
attribute [local go_sem] ajw.v in
theorem akq {Γ:Env} {f Ya:Nat} (h:Has Γ.P f 12 (aeQ Ya) bF) (z0:K0 Γ Ya):xL Γ f:=by
 intro a
 refine Qc h zsi zcl zcl fun C hC hm=>?_
 subst hC
 unfold aeQ
 refine zgo ?_;repeat' first|exact zt|apply zan|intro hc
 refine Qr _ rfl ?_;simp only [go_sem]
def aeR (Ya:Nat):AC:=Qb [0] (.reg [mc 2 (V.int 0)]) (Qb [3] (.reg [mv 6 0,cl 7 Ya [6],mv 5 7,ex 8 5 0,ex 9 5 1,xo 3 (.alloc [.val vs0,.val vi0,.val vi0,.nil 1,.nil 1]),xs 5 3 8,mv 4 9]) (Qb [2] (.reg [fa 10 1 3,ld 11 1 10,mv 2 11]) .ret)) def bG:List Q0:=[.tmp 2]
def xM (Γ:Env) (f:Nat):Prop:=∀ (a:Int),EvN Γ f [V.int a] (V.int (X7 a).kind)
attribute [local go_sem] ajw.v in
theorem akr {Γ:Env} {f Ya:Nat} (h:Has Γ.P f 12 (aeR Ya) bG) (z0:K0 Γ Ya):xM Γ f:=by
 intro a
 refine Qc h zsi zcl zcl fun C hC hm=>?_
 subst hC
 unfold aeR
 refine zgo ?_;repeat' first|exact zt|apply zan|intro hc
 refine Qr _ rfl ?_;simp only [go_sem]
def qX (R:ajw) (ok:Bool) (b:Int):Int :=
 if ok = false then 0
 else if R.way = 0 then (if b = 0 then R.strengths.headD 0 else 0)
 else if R.way = 1 then (if 512≤b∧b≤16384 then asq b as6 else 0)
 else if R.way = 2 then (if vC b 0 [160,224,256,384,521]≥0 then IntKind.i64.wrap (b.tdiv 2) else 0)
 else if R.way = 3 then (if vC b 0 R.sizes≥0 then R.strengths.getD (vC b 0 R.sizes).toNat 0 else 0)
 else 0
def Q4 (a b:Int):Int:=qX (X7 a) (decide (1≤a∧a≤22)) b
def ajw.ok (r:ajw):Bool:=(r.way != 0 || !r.strengths.isEmpty) && (r.way != 3 || r.sizes.length == r.strengths.length) && decide (r.sizes.length < 10)
theorem axU (a:Int) (ha:1≤a∧a≤22):(X7 a).ok = true:=by
 have h:∀ r∈K4.drop 1,r.ok = true:=by decide
 have hl:K4.length = 23:=rfl
 have hk:a.toNat < K4.length:=by omega
 rw [X7,if_pos ha,zB,zb hk,Option.getD_some]
 have hk':a.toNat - 1 < (K4.drop 1).length:=by simp;omega
 have:=h _ (zT hk')
 rw [bh] at this
 have e:1 + (a.toNat - 1) = a.toNat:=by omega
 simp only [e] at this
 exact this
theorem aru (x:Int):∀ (l:List Int) (k:Nat),vC x k l = -1∨(k≤vC x k l∧vC x k l < k + l.length)
 | [],k=>.inl rfl
 | y :: r,k=>by
   unfold vC
   split
   ·right;simp;omega
   ·rcases aru x r (k + 1) with h|⟨h1,h2⟩
    ·exact .inl h
    ·right;simp only [List.length_cons];omega
def wP (Ya VQ YF QV:Nat):AC:=Qb [1] (.reg [xo 1 (.box true 2 (.t 0)),mc 2 (V.int 0)]) (Qb [1,3,4] (.reg [fa 7 0 1,ld 8 1 7,cl 9 Ya [8],mv 6 9,ex 10 6 0,ex 11 6 1,xo 3 (.alloc [.val vs0,.val vi0,.val vi0,.nil 1,.nil 1]),xs 5 3 10,mv 4 11]) (Qb [1,3] (Qb [1,3,13] (.reg [mv 12 4,xo 13 (.un .not (.t 12))]) (.cond (.t 13) (Qb [2] (.reg [mc 2 (V.int 0)]) .ret) .skip)) (Qb [] (Qb [1,3,15] (.reg [fa 14 2 3,ld 15 1 14]) (.block 0 (Qb [1,3,15,16] (.reg [bc 17 .eql 15 (V.int 0),mv 16 17]) (.cond (.t 16) (Qb [3,20] (.reg [fa 18 1 1,ld 19 1 18,bc 20 .eql 19 (V.int 0)]) (.cond (.t 20) (Qb [2] (.reg [fa 21 4 3,ld 22 1 21,xo 23 (.iaddr 1 (.t 22) (.c (V.int 0))),ld 24 1 23,mv 2 24]) .ret) .skip)) (Qb [1,3,15,25] (.reg [bc 26 .eql 15 (V.int 1),mv 25 26]) (.cond (.t 25) (Qb [1,34] (.reg [fa 27 1 1,ld 28 1 27,bc 29 .geq 28 (V.int 512),mv 30 29,xg 31 (.faddr 1 (.t 1)) 30 true,xg 32 (.load false 1 (.t 31)) 30 true,xg 33 (.bin .leq (.t 32) (.c (V.int 16384))) 30 true,xo 34 (.pick (.t 30) (.t 33) (.c (V.bool false)))]) (.cond (.t 34) (Qb [2] (.reg [fa 35 1 1,ld 36 1 35,cl 37 VQ [36],mv 2 37]) .ret) .skip)) (Qb [1,3,15,38] (.reg [bc 39 .eql 15 (V.int 2),mv 38 39]) (.cond (.t 38) (Qb [1,43] (.reg [xo 40 (.bslice 5 1 false [vi0] [(0,(.c (V.int 160))),(1,(.c (V.int 224))),(2,(.c (V.int 256))),(3,(.c (V.int 384))),(4,(.c (V.int 521)))]),fa 41 1 1,ld 42 1 41,cl 43 YF [40,42]]) (.cond (.t 43) (Qb [2] (.reg [fa 44 1 1,ld 45 1 44,bc 46 .quo 45 (V.int 2),mv 2 46]) .ret) .skip)) (Qb [1,3,47] (.reg [bc 48 .eql 15 (V.int 3),mv 47 48]) (.cond (.t 47) (Qb [3,5] (.reg [fa 49 3 3,ld 50 1 49,fa 51 1 1,ld 52 1 51,cl 53 QV [50,52],mv 5 53]) (Qb [3,5,55] (.reg [mv 54 5,bc 55 .geq 54 (V.int 0)]) (.cond (.t 55) (Qb [2] (.reg [fa 56 4 3,ld 57 1 56,mv 58 5,ia 59 1 57 58,ld 60 1 59,mv 2 60]) .ret) .skip))) .skip)))))))))) (Qb [2] (.reg [mc 2 (V.int 0)]) .ret)))) def bH:List Q0:=[.tmp 2]
def UP (Γ:Env) (f:Nat):Prop:=∀ (a b:Int),EvN Γ f [.agg [V.int a,V.int b]] (V.int (Q4 a b))
attribute [local go_sem] ajw.v in
theorem afl {Γ:Env} {f Ya VQ YF QV:Nat} (h:Has Γ.P f 61 (wP Ya VQ YF QV) bH) (z0:K0 Γ Ya) (z1:K1 Γ VQ) (z2:XS Γ YF) (z3:Xj Γ QV):UP Γ f:=by
 intro a b
 refine Qc h zsi zcl zcl fun C hC hm=>?_
 subst hC
 unfold wP
 have hc5:=z2 [160,224,256,384,521] b (by simp)
 by_cases ha:1≤a∧a≤22
 ·have hd:decide (1≤a∧a≤22) = true:=by simp [ha]
  have ok:=axU a ha
  have fl:=aru b (X7 a).sizes 0
  rcases hR:X7 a with ⟨nm,kd,wy,sz,st⟩
  rw [hR] at ok fl
  simp only [ajw.ok,zo,kG,zu,bne_iff_ne,ki] at ok
  rcases st with _|⟨x,st⟩
  ·(have zy0:=hc5.b;have zx:=za hR hd);refine zgo ?_;repeat' first|exact zt|apply zan|intro hc
   all_goals first
    | (refine Qr _ rfl ?_;simp only [go_sem];simp [Q4,qX,hR, *];done)
    | (exfalso;simp only [Z4,List.length_cons,List.length_nil,List.isEmpty_nil] at hst fl ok;omega)
    | (exfalso;simp only [List.length_nil] at fl ok;omega)
    | (exfalso;simp_all;done)
  ·rcases hst:(x :: st)[(vC b 0 sz).toNat]? with _|v
   ·have hs2:(V.int x :: List.map V.int st)[(vC b 0 sz).toNat]? = none:=by rw [← zI,zi,hst];rfl
    (have zy0:=hc5.b;have zx:=za hR (za hd hs2));refine zgo ?_;repeat' first|exact zt|apply zan|intro hc
    all_goals first
     | (refine Qr _ rfl ?_;simp only [go_sem];simp [Q4,qX,hR, *];done)
     | (exfalso;simp only [Z4,List.length_cons,List.length_nil,List.isEmpty_nil] at hst fl ok;omega)
     | (exfalso;simp_all;done)
   ·have hs2:(V.int x :: List.map V.int st)[(vC b 0 sz).toNat]? = some (V.int v):=by rw [← zI,zi,hst];rfl
    (have zy0:=hc5.b;have zx:=za hR (za hd hs2));refine zgo ?_;repeat' first|exact zt|apply zan|intro hc
    all_goals first
     | (refine Qr _ rfl ?_;simp only [go_sem];simp [Q4,qX,hR, *];done)
     | (exfalso;simp only [Z4,List.length_cons,List.length_nil,List.isEmpty_nil] at hst fl ok;omega)
     | (exfalso;simp_all;done)
 ·have hd:decide (1≤a∧a≤22) = false:=by simp [ha]
  (have zx:=hd);refine zgo ?_;repeat' first|exact zt|apply zan|intro hc
  refine Qr _ rfl ?_;simp only [go_sem]
  simp [Q4,qX,hd]
end Av
end
