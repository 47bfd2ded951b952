/- K11 -/
import Derived.Test.YtajbkpjbnooblaaGreatDoorK9
import Derived.KernelRfl
set_option linter.unusedVariables false
set_option linter.unusedSimpArgs false
section
set_option linter.unusedSimpArgs false
set_option linter.unusedVariables false
set_option maxRecDepth 10000
namespace Av
open Go
attribute [local irreducible] AWp VV UQ Ko awS awC jF awQ yc Jb XH jD awR XT awB okR Wy ris
def asD (a n:Int):Int:=if n < 1 then 0 else (IntKind.i64.wrap (a.tmod n + n)).tmod n
def KM (x:Int):Nat→List Int→Int
 | _,[]=>-1
 | k,y :: r=>if x = y then k else KM x (k + 1) r
def V7:AC:=Qe [0,1] (.reg [mc 4 (V.int 0)]) (Qe [] (Qe [0,1,7,8] (.reg [mv 6 0,ln 7 6,mc 8 (V.int 0)]) (.block 0 (Xw [0,1,7,8] (Qe [0,1,7,8,9] (.reg [bn 9 .lss 8 7]) (Qe [0,1,7,8] (.cond (.t 9) (.skip) (.exit 0)) (Qe [0,1,7,8] (.block 1 (Qe [0,1,5,7,8] (.reg [mv 10 8,mv 5 10]) (Qe [0,1,5,7,8,16] (.reg [mv 11 1,mv 12 0,mv 13 5,ia 14 1 12 13,ld 15 1 14,bn 16 .eql 11 15]) (.cond (.t 16) (Qe [4] (.reg [mv 17 5,mv 4 17]) (.ret)) (.skip))))) (.reg [bc 18 .add 8 (V.int 1),mv 8 18]))))))) (Qe [4] (.reg [mc 4 (V.int (-1))]) (.ret))) def r_slices_Index___int_int:List YF:=[.tmp 4]
def Wg (Γ:Env) (f:Nat):Prop:=∀ (l:List Int) (x:Int) (hl:l.length < 2 ^ 62),EvN Γ f [.sl 1 (l.map V.int),V.int x] (V.int (KM x 0 l))
theorem abf {Γ:Env} {f:Nat} (h:Has Γ.P f 19 V7 r_slices_Index___int_int) :Wg Γ f:=by
 intro l x hl
 refine Qj h zsi zcl zcl fun C hC hm=>?_
 subst hC
 unfold V7
 refine zgo ?_;repeat' first|exact zt|apply zan|intro hc
 refine JM (ι:=Nat) (fun k=>k≤l.length∧KM x k (l.drop k) = KM x 0 l) (fun k=>[(8,V.int k)]) (fun k=>l.length - k) 0 (by omega) ⟨by simp,by simp⟩ (by repeat' first|exact Yb|refine YR (by omega) (by simp only [Ob.lt,ltL,V.lt,and_self,and_true];try omega) ?_) (fun i hi=>by simp only [ovT,Q9,Nat.reduceEqDiff,reduceIte];(repeat' first|exact YQ|refine Ya ?_ ?_|simp only [V.lt,ltL,and_self,and_true]|omega)) (by simp only [Nat.reduceAdd,ovT,Q9,Nat.reduceEqDiff,reduceIte,Qt,Q0,Uh,u32,u33,u34,u35,u36,u37,u38,u39,and_self,and_true,true_and];rfl) fun k hk K' hL=>?_
 obtain ⟨hk,hinv⟩:=hk
 simp only [ovT,Q9,Nat.reduceEqDiff,reduceIte]
 rcases hd:l.drop k with _|⟨y,r⟩
 ·have:=Ja hd
  rw [hd] at hinv
  refine zgo ?_;repeat' first|exact zt|apply zan|intro hc
  refine QA _ rfl ?_
  simp only [go_sem]
  rw [← hinv];rfl
 ·obtain ⟨hk,hget,hr⟩:=QK hd
  rw [hd] at hinv
  have hw:=QP (k:=k) (by omega)
  (have zx:=And.intro hget hw);refine zgo ?_;repeat' first|exact zt|apply zan|intro hc
  ·refine QA _ rfl ?_
   simp only [go_sem]
   rw [← hinv];simp [KM,hc]
  ·refine hL _ (k + 1) (by simp only [Nat.reduceAdd,ovT,Q9,Nat.reduceEqDiff,reduceIte,Qt,Q0,Uh,u32,u33,u34,u35,u36,u37,u38,u39,and_self,and_true,true_and]) ⟨by omega,?_⟩ (by omega) (fun a ha=>rfl)
   rw [hr,← hinv];simp [KM,hc]
def W4 (JO:Nat):AC:=Qe [0,1] (.reg [mc 4 (V.bool false)]) (Qe [4] (.reg [mv 5 0,mv 6 1,cl 7 JO [5,6],bc 8 .geq 7 (V.int 0),mv 4 8]) (.ret)) def r_slices_Contains___int_int:List YF:=[.tmp 4]
def JJ (Γ:Env) (f:Nat):Prop:=∀ (l:List Int) (x:Int) (hl:l.length < 2 ^ 62),EvN Γ f [.sl 1 (l.map V.int),V.int x] (V.bool (decide (KM x 0 l≥0)))
theorem vb {Γ:Env} {f JO:Nat} (h:Has Γ.P f 9 (W4 JO) r_slices_Contains___int_int) (z0:Wg Γ JO):JJ Γ f:=by
 intro l x hl
 refine Qj h zsi zcl zcl fun C hC hm=>?_
 subst hC
 unfold W4
 refine zgo ?_;repeat' first|exact zt|apply zan|intro hc
 refine QA _ rfl ?_
 simp only [go_sem]
end Av
end
section
set_option linter.unusedSimpArgs false
set_option linter.unusedVariables false
set_option maxRecDepth 10000
namespace Av
open Go
attribute [local irreducible] AWp VV UQ Ko awS awC jF awQ yc Jb XH jD awR XT awB okR Wy ris
structure agY where
 name:List UInt8
 kind:Int
 way:Int
 sizes:List Int
 strengths:List Int
 deriving DecidableEq
def agY.v (r:agY):List V:=[V.str r.name,V.int r.kind,V.int r.way,.sl 1 (r.sizes.map V.int),.sl 1 (r.strengths.map V.int)]
def alR:agY:=⟨[],0,0,[],[]⟩
def X8:List agY:=[alR,⟨[109,100,53],1,0,[],[18]⟩,⟨[115,104,97,49],1,0,[],[60]⟩,⟨[115,104,97,50,53,54],1,0,[],[128]⟩,⟨[115,104,97,51,56,52],1,0,[],[192]⟩,⟨[114,115,97],2,1,[],[]⟩,⟨[100,115,97],2,1,[],[]⟩,⟨[101,99,100,115,97],2,2,[],[]⟩,⟨[101,100,50,53,53,49,57],2,0,[],[128]⟩,⟨[109,108,100,115,97],2,3,[44,65,87],[128,192,256]⟩,⟨[114,115,97,107,120],3,1,[],[]⟩,⟨[100,104,101],3,1,[],[]⟩,⟨[101,99,100,104,101],3,2,[],[]⟩,⟨[109,108,107,101,109],3,3,[512,768,1024],[128,192,256]⟩,⟨[114,99,52],4,3,[40,128],[40,60]⟩,⟨[100,101,115,51],4,3,[112,168],[80,112]⟩,⟨[97,101,115,99,98,99],4,3,[128,256],[128,256]⟩,⟨[97,101,115,103,99,109],4,3,[128,256],[128,256]⟩,⟨[99,104,97,99,104,97],4,0,[],[256]⟩,⟨[104,109,97,99,109,100,53],5,0,[],[64]⟩,⟨[104,109,97,99,115,104,97,49],5,0,[],[80]⟩,⟨[104,109,97,99,115,104,97,50,53,54],5,0,[],[128]⟩,⟨[97,101,97,100],5,0,[],[256]⟩]
def aj7:List V:=X8.flatMap agY.v
def Yz (a:Int):agY:=if 1≤a∧a≤22 then X8.getD a.toNat alR else alR
theorem agt {α β:Type} {f:α→List β} {n:Nat} (h:∀ x,(f x).length = n):∀ (l:List α) (k:Nat) (hk:k < l.length),((l.flatMap f).drop (k * n)).take n = f l[k]
 | [],k,hk=>by simp at hk
 | x :: l,0,_=>by simp [List.take_append_of_le_length,h x]
 | x :: l,k + 1,hk=>by
   have e:(k + 1) * n = (f x).length + k * n:=by rw [h x,Nat.add_mul];omega
   rw [List.flatMap_cons,e,← List.drop_drop,List.drop_left]
   exact agt h l k (by simpa using hk)
theorem akV:aj7.length = 115:=rfl
theorem amv (a:Int) (h1:1≤a) (h2:a≤22):(aj7.drop (a.toNat * 5)).take 5 = (Yz a).v:=by
 have hl:X8.length = 23:=rfl
 have hk:a.toNat < X8.length:=by omega
 rw [aj7,agt (f:=agY.v) (n:=5) (fun _=>rfl) X8 a.toNat hk,Yz,if_pos ⟨h1,h2⟩,List.getD_eq_getElem?_getD,List.getElem?_eq_getElem hk,Option.getD_some]
theorem anU (r:agY):closedL r.v:=by simp [agY.v,closedL,V.closed]
theorem aiK:closedL aj7:=anV (by
 simp only [aj7,List.mem_flatMap]
 rintro v ⟨r,_,hr⟩
 simp [agY.v] at hr
 rcases hr with rfl|rfl|rfl|rfl|rfl<;>trivial)
def abl:AC:=Qe [0] (.reg [xo 0 (.alloc [.val (.string ⟨#[]⟩),.val (.int .i64 0),.val (.int .i64 0),.nil 1,.nil 1,.val (.string ⟨#[]⟩),.val (.int .i64 0),.val (.int .i64 0),.nil 1,.nil 1,.val (.string ⟨#[]⟩),.val (.int .i64 0),.val (.int .i64 0),.nil 1,.nil 1,.val (.string ⟨#[]⟩),.val (.int .i64 0),.val (.int .i64 0),.nil 1,.nil 1,.val (.string ⟨#[]⟩),.val (.int .i64 0),.val (.int .i64 0),.nil 1,.nil 1,.val (.string ⟨#[]⟩),.val (.int .i64 0),.val (.int .i64 0),.nil 1,.nil 1,.val (.string ⟨#[]⟩),.val (.int .i64 0),.val (.int .i64 0),.nil 1,.nil 1,.val (.string ⟨#[]⟩),.val (.int .i64 0),.val (.int .i64 0),.nil 1,.nil 1,.val (.string ⟨#[]⟩),.val (.int .i64 0),.val (.int .i64 0),.nil 1,.nil 1,.val (.string ⟨#[]⟩),.val (.int .i64 0),.val (.int .i64 0),.nil 1,.nil 1,.val (.string ⟨#[]⟩),.val (.int .i64 0),.val (.int .i64 0),.nil 1,.nil 1,.val (.string ⟨#[]⟩),.val (.int .i64 0),.val (.int .i64 0),.nil 1,.nil 1,.val (.string ⟨#[]⟩),.val (.int .i64 0),.val (.int .i64 0),.nil 1,.nil 1,.val (.string ⟨#[]⟩),.val (.int .i64 0),.val (.int .i64 0),.nil 1,.nil 1,.val (.string ⟨#[]⟩),.val (.int .i64 0),.val (.int .i64 0),.nil 1,.nil 1,.val (.string ⟨#[]⟩),.val (.int .i64 0),.val (.int .i64 0),.nil 1,.nil 1,.val (.string ⟨#[]⟩),.val (.int .i64 0),.val (.int .i64 0),.nil 1,.nil 1,.val (.string ⟨#[]⟩),.val (.int .i64 0),.val (.int .i64 0),.nil 1,.nil 1,.val (.string ⟨#[]⟩),.val (.int .i64 0),.val (.int .i64 0),.nil 1,.nil 1,.val (.string ⟨#[]⟩),.val (.int .i64 0),.val (.int .i64 0),.nil 1,.nil 1,.val (.string ⟨#[]⟩),.val (.int .i64 0),.val (.int .i64 0),.nil 1,.nil 1,.val (.string ⟨#[]⟩),.val (.int .i64 0),.val (.int .i64 0),.nil 1,.nil 1,.val (.string ⟨#[]⟩),.val (.int .i64 0),.val (.int .i64 0),.nil 1,.nil 1])]) (Qe [0] (.reg [xo 1 (.bslice 1 1 false [(.int .i64 0)] [(0,(.c (V.int 18)))]),xo 2 (.build [(.string ⟨#[]⟩),(.int .i64 0),(.int .i64 0),(.slice none 0 0),(.slice none 0 0)] [(0,1,(.c (V.str [109,100,53]))),(1,1,(.c (V.int 1))),(2,1,(.c (V.int 0))),(3,1,(.c (.sc (.slice none 0 0)))),(4,1,(.t 1))]),xo 3 (.bslice 1 1 false [(.int .i64 0)] [(0,(.c (V.int 60)))]),xo 4 (.build [(.string ⟨#[]⟩),(.int .i64 0),(.int .i64 0),(.slice none 0 0),(.slice none 0 0)] [(0,1,(.c (V.str [115,104,97,49]))),(1,1,(.c (V.int 1))),(2,1,(.c (V.int 0))),(3,1,(.c (.sc (.slice none 0 0)))),(4,1,(.t 3))]),xo 5 (.bslice 1 1 false [(.int .i64 0)] [(0,(.c (V.int 128)))]),xo 6 (.build [(.string ⟨#[]⟩),(.int .i64 0),(.int .i64 0),(.slice none 0 0),(.slice none 0 0)] [(0,1,(.c (V.str [115,104,97,50,53,54]))),(1,1,(.c (V.int 1))),(2,1,(.c (V.int 0))),(3,1,(.c (.sc (.slice none 0 0)))),(4,1,(.t 5))]),xo 7 (.bslice 1 1 false [(.int .i64 0)] [(0,(.c (V.int 192)))]),xo 8 (.build [(.string ⟨#[]⟩),(.int .i64 0),(.int .i64 0),(.slice none 0 0),(.slice none 0 0)] [(0,1,(.c (V.str [115,104,97,51,56,52]))),(1,1,(.c (V.int 1))),(2,1,(.c (V.int 0))),(3,1,(.c (.sc (.slice none 0 0)))),(4,1,(.t 7))]),xo 9 (.build [(.string ⟨#[]⟩),(.int .i64 0),(.int .i64 0),(.slice none 0 0),(.slice none 0 0)] [(0,1,(.c (V.str [114,115,97]))),(1,1,(.c (V.int 2))),(2,1,(.c (V.int 1))),(3,1,(.c (.sc (.slice none 0 0)))),(4,1,(.c (.sc (.slice none 0 0))))]),xo 10 (.build [(.string ⟨#[]⟩),(.int .i64 0),(.int .i64 0),(.slice none 0 0),(.slice none 0 0)] [(0,1,(.c (V.str [100,115,97]))),(1,1,(.c (V.int 2))),(2,1,(.c (V.int 1))),(3,1,(.c (.sc (.slice none 0 0)))),(4,1,(.c (.sc (.slice none 0 0))))]),xo 11 (.build [(.string ⟨#[]⟩),(.int .i64 0),(.int .i64 0),(.slice none 0 0),(.slice none 0 0)] [(0,1,(.c (V.str [101,99,100,115,97]))),(1,1,(.c (V.int 2))),(2,1,(.c (V.int 2))),(3,1,(.c (.sc (.slice none 0 0)))),(4,1,(.c (.sc (.slice none 0 0))))]),xo 12 (.bslice 1 1 false [(.int .i64 0)] [(0,(.c (V.int 128)))]),xo 13 (.build [(.string ⟨#[]⟩),(.int .i64 0),(.int .i64 0),(.slice none 0 0),(.slice none 0 0)] [(0,1,(.c (V.str [101,100,50,53,53,49,57]))),(1,1,(.c (V.int 2))),(2,1,(.c (V.int 0))),(3,1,(.c (.sc (.slice none 0 0)))),(4,1,(.t 12))]),xo 14 (.bslice 3 1 false [(.int .i64 0)] [(0,(.c (V.int 44))),(1,(.c (V.int 65))),(2,(.c (V.int 87)))]),xo 15 (.bslice 3 1 false [(.int .i64 0)] [(0,(.c (V.int 128))),(1,(.c (V.int 192))),(2,(.c (V.int 256)))]),xo 16 (.build [(.string ⟨#[]⟩),(.int .i64 0),(.int .i64 0),(.slice none 0 0),(.slice none 0 0)] [(0,1,(.c (V.str [109,108,100,115,97]))),(1,1,(.c (V.int 2))),(2,1,(.c (V.int 3))),(3,1,(.t 14)),(4,1,(.t 15))]),xo 17 (.build [(.string ⟨#[]⟩),(.int .i64 0),(.int .i64 0),(.slice none 0 0),(.slice none 0 0)] [(0,1,(.c (V.str [114,115,97,107,120]))),(1,1,(.c (V.int 3))),(2,1,(.c (V.int 1))),(3,1,(.c (.sc (.slice none 0 0)))),(4,1,(.c (.sc (.slice none 0 0))))]),xo 18 (.build [(.string ⟨#[]⟩),(.int .i64 0),(.int .i64 0),(.slice none 0 0),(.slice none 0 0)] [(0,1,(.c (V.str [100,104,101]))),(1,1,(.c (V.int 3))),(2,1,(.c (V.int 1))),(3,1,(.c (.sc (.slice none 0 0)))),(4,1,(.c (.sc (.slice none 0 0))))]),xo 19 (.build [(.string ⟨#[]⟩),(.int .i64 0),(.int .i64 0),(.slice none 0 0),(.slice none 0 0)] [(0,1,(.c (V.str [101,99,100,104,101]))),(1,1,(.c (V.int 3))),(2,1,(.c (V.int 2))),(3,1,(.c (.sc (.slice none 0 0)))),(4,1,(.c (.sc (.slice none 0 0))))]),xo 20 (.bslice 3 1 false [(.int .i64 0)] [(0,(.c (V.int 512))),(1,(.c (V.int 768))),(2,(.c (V.int 1024)))]),xo 21 (.bslice 3 1 false [(.int .i64 0)] [(0,(.c (V.int 128))),(1,(.c (V.int 192))),(2,(.c (V.int 256)))]),xo 22 (.build [(.string ⟨#[]⟩),(.int .i64 0),(.int .i64 0),(.slice none 0 0),(.slice none 0 0)] [(0,1,(.c (V.str [109,108,107,101,109]))),(1,1,(.c (V.int 3))),(2,1,(.c (V.int 3))),(3,1,(.t 20)),(4,1,(.t 21))]),xo 23 (.bslice 2 1 false [(.int .i64 0)] [(0,(.c (V.int 40))),(1,(.c (V.int 128)))]),xo 24 (.bslice 2 1 false [(.int .i64 0)] [(0,(.c (V.int 40))),(1,(.c (V.int 60)))]),xo 25 (.build [(.string ⟨#[]⟩),(.int .i64 0),(.int .i64 0),(.slice none 0 0),(.slice none 0 0)] [(0,1,(.c (V.str [114,99,52]))),(1,1,(.c (V.int 4))),(2,1,(.c (V.int 3))),(3,1,(.t 23)),(4,1,(.t 24))]),xo 26 (.bslice 2 1 false [(.int .i64 0)] [(0,(.c (V.int 112))),(1,(.c (V.int 168)))]),xo 27 (.bslice 2 1 false [(.int .i64 0)] [(0,(.c (V.int 80))),(1,(.c (V.int 112)))]),xo 28 (.build [(.string ⟨#[]⟩),(.int .i64 0),(.int .i64 0),(.slice none 0 0),(.slice none 0 0)] [(0,1,(.c (V.str [100,101,115,51]))),(1,1,(.c (V.int 4))),(2,1,(.c (V.int 3))),(3,1,(.t 26)),(4,1,(.t 27))]),xo 29 (.bslice 2 1 false [(.int .i64 0)] [(0,(.c (V.int 128))),(1,(.c (V.int 256)))]),xo 30 (.bslice 2 1 false [(.int .i64 0)] [(0,(.c (V.int 128))),(1,(.c (V.int 256)))]),xo 31 (.build [(.string ⟨#[]⟩),(.int .i64 0),(.int .i64 0),(.slice none 0 0),(.slice none 0 0)] [(0,1,(.c (V.str [97,101,115,99,98,99]))),(1,1,(.c (V.int 4))),(2,1,(.c (V.int 3))),(3,1,(.t 29)),(4,1,(.t 30))]),xo 32 (.bslice 2 1 false [(.int .i64 0)] [(0,(.c (V.int 128))),(1,(.c (V.int 256)))]),xo 33 (.bslice 2 1 false [(.int .i64 0)] [(0,(.c (V.int 128))),(1,(.c (V.int 256)))]),xo 34 (.build [(.string ⟨#[]⟩),(.int .i64 0),(.int .i64 0),(.slice none 0 0),(.slice none 0 0)] [(0,1,(.c (V.str [97,101,115,103,99,109]))),(1,1,(.c (V.int 4))),(2,1,(.c (V.int 3))),(3,1,(.t 32)),(4,1,(.t 33))]),xo 35 (.bslice 1 1 false [(.int .i64 0)] [(0,(.c (V.int 256)))]),xo 36 (.build [(.string ⟨#[]⟩),(.int .i64 0),(.int .i64 0),(.slice none 0 0),(.slice none 0 0)] [(0,1,(.c (V.str [99,104,97,99,104,97]))),(1,1,(.c (V.int 4))),(2,1,(.c (V.int 0))),(3,1,(.c (.sc (.slice none 0 0)))),(4,1,(.t 35))]),xo 37 (.bslice 1 1 false [(.int .i64 0)] [(0,(.c (V.int 64)))]),xo 38 (.build [(.string ⟨#[]⟩),(.int .i64 0),(.int .i64 0),(.slice none 0 0),(.slice none 0 0)] [(0,1,(.c (V.str [104,109,97,99,109,100,53]))),(1,1,(.c (V.int 5))),(2,1,(.c (V.int 0))),(3,1,(.c (.sc (.slice none 0 0)))),(4,1,(.t 37))]),xo 39 (.bslice 1 1 false [(.int .i64 0)] [(0,(.c (V.int 80)))]),xo 40 (.build [(.string ⟨#[]⟩),(.int .i64 0),(.int .i64 0),(.slice none 0 0),(.slice none 0 0)] [(0,1,(.c (V.str [104,109,97,99,115,104,97,49]))),(1,1,(.c (V.int 5))),(2,1,(.c (V.int 0))),(3,1,(.c (.sc (.slice none 0 0)))),(4,1,(.t 39))]),xo 41 (.bslice 1 1 false [(.int .i64 0)] [(0,(.c (V.int 128)))]),xo 42 (.build [(.string ⟨#[]⟩),(.int .i64 0),(.int .i64 0),(.slice none 0 0),(.slice none 0 0)] [(0,1,(.c (V.str [104,109,97,99,115,104,97,50,53,54]))),(1,1,(.c (V.int 5))),(2,1,(.c (V.int 0))),(3,1,(.c (.sc (.slice none 0 0)))),(4,1,(.t 41))]),xo 43 (.bslice 1 1 false [(.int .i64 0)] [(0,(.c (V.int 256)))]),xo 44 (.build [(.string ⟨#[]⟩),(.int .i64 0),(.int .i64 0),(.slice none 0 0),(.slice none 0 0)] [(0,1,(.c (V.str [97,101,97,100]))),(1,1,(.c (V.int 5))),(2,1,(.c (V.int 0))),(3,1,(.c (.sc (.slice none 0 0)))),(4,1,(.t 43))]),xo 45 (.build [(.string ⟨#[]⟩),(.int .i64 0),(.int .i64 0),(.slice none 0 0),(.slice none 0 0),(.string ⟨#[]⟩),(.int .i64 0),(.int .i64 0),(.slice none 0 0),(.slice none 0 0),(.string ⟨#[]⟩),(.int .i64 0),(.int .i64 0),(.slice none 0 0),(.slice none 0 0),(.string ⟨#[]⟩),(.int .i64 0),(.int .i64 0),(.slice none 0 0),(.slice none 0 0),(.string ⟨#[]⟩),(.int .i64 0),(.int .i64 0),(.slice none 0 0),(.slice none 0 0),(.string ⟨#[]⟩),(.int .i64 0),(.int .i64 0),(.slice none 0 0),(.slice none 0 0),(.string ⟨#[]⟩),(.int .i64 0),(.int .i64 0),(.slice none 0 0),(.slice none 0 0),(.string ⟨#[]⟩),(.int .i64 0),(.int .i64 0),(.slice none 0 0),(.slice none 0 0),(.string ⟨#[]⟩),(.int .i64 0),(.int .i64 0),(.slice none 0 0),(.slice none 0 0),(.string ⟨#[]⟩),(.int .i64 0),(.int .i64 0),(.slice none 0 0),(.slice none 0 0),(.string ⟨#[]⟩),(.int .i64 0),(.int .i64 0),(.slice none 0 0),(.slice none 0 0),(.string ⟨#[]⟩),(.int .i64 0),(.int .i64 0),(.slice none 0 0),(.slice none 0 0),(.string ⟨#[]⟩),(.int .i64 0),(.int .i64 0),(.slice none 0 0),(.slice none 0 0),(.string ⟨#[]⟩),(.int .i64 0),(.int .i64 0),(.slice none 0 0),(.slice none 0 0),(.string ⟨#[]⟩),(.int .i64 0),(.int .i64 0),(.slice none 0 0),(.slice none 0 0),(.string ⟨#[]⟩),(.int .i64 0),(.int .i64 0),(.slice none 0 0),(.slice none 0 0),(.string ⟨#[]⟩),(.int .i64 0),(.int .i64 0),(.slice none 0 0),(.slice none 0 0),(.string ⟨#[]⟩),(.int .i64 0),(.int .i64 0),(.slice none 0 0),(.slice none 0 0),(.string ⟨#[]⟩),(.int .i64 0),(.int .i64 0),(.slice none 0 0),(.slice none 0 0),(.string ⟨#[]⟩),(.int .i64 0),(.int .i64 0),(.slice none 0 0),(.slice none 0 0),(.string ⟨#[]⟩),(.int .i64 0),(.int .i64 0),(.slice none 0 0),(.slice none 0 0),(.string ⟨#[]⟩),(.int .i64 0),(.int .i64 0),(.slice none 0 0),(.slice none 0 0),(.string ⟨#[]⟩),(.int .i64 0),(.int .i64 0),(.slice none 0 0),(.slice none 0 0)] [(5,5,(.t 2)),(10,5,(.t 4)),(15,5,(.t 6)),(20,5,(.t 8)),(25,5,(.t 9)),(30,5,(.t 10)),(35,5,(.t 11)),(40,5,(.t 13)),(45,5,(.t 16)),(50,5,(.t 17)),(55,5,(.t 18)),(60,5,(.t 19)),(65,5,(.t 22)),(70,5,(.t 25)),(75,5,(.t 28)),(80,5,(.t 31)),(85,5,(.t 34)),(90,5,(.t 36)),(95,5,(.t 38)),(100,5,(.t 40)),(105,5,(.t 42)),(110,5,(.t 44))]),xs 115 0 45]) (.ret)) def r_catalog_rows:List YF:=[.cell 0 true 115]
def yz (Γ:Env) (f:Nat):Prop:=EvC Γ f [] (.agg aj7)
theorem aiy {Γ:Env} {f:Nat} (h:Has Γ.P f 46 abl r_catalog_rows) :yz Γ f:=by
 refine XR h zsi (aiK) fun C hC hm=>?_
 subst hC
 unfold abl
 refine zgo ?_;repeat' first|exact zt|apply zan|intro hc
 refine QA _ rfl ?_
 simp only [aj7,X8,alR,agY.v,List.flatMap_cons,List.flatMap_nil,go_sem,Nat.reduceAdd,Nat.reduceMul,Nat.reduceEqDiff,Nat.reduceLeDiff,Nat.reduceLT,Nat.reduceSub,Int.reduceEq,Int.reduceBEq,Int.reduceLT,Int.reduceLE,Int.reduceAdd,Int.reduceToNat,reduceIte,reduceCtorEq]
def adC (We:Nat):AC:=Qe [0,2] (.reg [xo 2 (.alloc [.val (.string ⟨#[]⟩),.val (.int .i64 0),.val (.int .i64 0),.nil 1,.nil 1]),mc 3 (V.bool false)]) (Qe [0,2] (Qe [0,2,9] (.reg [mv 4 0,bc 5 .lss 4 (V.int 1),mv 6 5,mg 7 0 6 false,xg 8 (.bin .gtr (.t 7) (.c (V.int 22))) 6 false,xo 9 (.pick (.t 6) (.c (V.bool true)) (.t 8))]) (.cond (.t 9) (Qe [2,3] (.reg [xo 10 (.build [(.string ⟨#[]⟩),(.int .i64 0),(.int .i64 0),(.slice none 0 0),(.slice none 0 0)] []),xs 5 2 10,mc 3 (V.bool false)]) (.ret)) (.skip))) (Qe [2,3] (.reg [cl 11 We [],mv 12 0,xo 13 (.idxA true 23 5 (.t 11) (.t 12)),xs 5 2 13,mc 3 (V.bool true)]) (.ret))) def r_catalog_of:List YF:=[.cell 2 true 5,.tmp 3]
def yA (Γ:Env) (f:Nat):Prop:=∀ (a:Int),EvC Γ f [V.int a] (.tup [.agg (Yz a).v,V.bool (decide (1≤a∧a≤22))])
theorem akx {Γ:Env} {f We:Nat} (h:Has Γ.P f 14 (adC We) r_catalog_of) (z0:yz Γ We):yA Γ f:=by
 intro a
 refine XR h zsi (⟨anU _,trivial,trivial⟩) fun C hC hm=>?_
 subst hC
 unfold adC
 repeat' (first|(refine zsk ?_;intro K' hK)|refine zsp ?_|(refine zsc ?_ ?_<;>intro hc<;>first|exact znh|try simp only [znz] at hc)|simp (maxSteps:=1000000) only [go_sem]|(refine hK _ ?_;clear hK K')|apply zan|(apply Ql;(focus first|exact EvC.b z0))|exact zsq|fail)
 ·refine QA _ rfl ?_
  rw [Yz,if_neg (by omega)]
  simp only [go_sem,agY.v,alR,List.map_nil,and_self]
  simp;omega
 ·rw [akV];omega
 ·rw [amv a (by omega) (by omega)];rfl
 ·rw [amv a (by omega) (by omega)]
  refine QA _ rfl ?_
  simp only [go_sem,agY.v,List.length_cons,List.length_nil,go_sem]
  simp;omega
 ·refine QA _ rfl ?_
  rw [Yz,if_neg (by omega)]
  simp only [go_sem,agY.v,alR,List.map_nil,and_self]
  simp;omega
end Av
end
section
set_option linter.unusedSimpArgs false
set_option linter.unusedVariables false
set_option maxRecDepth 10000
namespace Av
open Go
attribute [local irreducible] AWp VV UQ Ko awS awC jF awQ yc Jb XH jD awR XT awB okR Wy ris
def alL (b:Int):List (Int×Int)→Int
 | []=>256
 | (x,y) :: r=>if b < x then y else alL b r
def al4:List (Int×Int):=[(1024,56),(2048,80),(3072,112),(7680,128),(15360,192)]
def xk:AC:=Qe [0] (.reg [mc 2 (V.int 0)]) (Qe [] (Qe [0,10,11] (.reg [xo 5 (.build [(.int .i64 0),(.int .i64 0)] [(0,1,(.c (V.int 1024))),(1,1,(.c (V.int 56)))]),xo 6 (.build [(.int .i64 0),(.int .i64 0)] [(0,1,(.c (V.int 2048))),(1,1,(.c (V.int 80)))]),xo 7 (.build [(.int .i64 0),(.int .i64 0)] [(0,1,(.c (V.int 3072))),(1,1,(.c (V.int 112)))]),xo 8 (.build [(.int .i64 0),(.int .i64 0)] [(0,1,(.c (V.int 7680))),(1,1,(.c (V.int 128)))]),xo 9 (.build [(.int .i64 0),(.int .i64 0)] [(0,1,(.c (V.int 15360))),(1,1,(.c (V.int 192)))]),xo 10 (.build [(.int .i64 0),(.int .i64 0),(.int .i64 0),(.int .i64 0),(.int .i64 0),(.int .i64 0),(.int .i64 0),(.int .i64 0),(.int .i64 0),(.int .i64 0)] [(0,2,(.t 5)),(2,2,(.t 6)),(4,2,(.t 7)),(6,2,(.t 8)),(8,2,(.t 9))]),mc 11 (V.int 0)]) (.block 0 (Xw [0,10,11] (Qe [0,10,11,12] (.reg [bc 12 .lss 11 (V.int 5)]) (Qe [0,10,11] (.cond (.t 12) (.skip) (.exit 0)) (Qe [0,10,11] (.block 1 (Qe [0,4,10,11] (.reg [xo 13 (.idxA true 5 2 (.t 10) (.t 11)),xo 4 (.alloc [.val (.int .i64 0),.val (.int .i64 0)]),xs 2 4 13]) (Qe [0,4,10,11,17] (.reg [mv 14 0,xo 15 (.iaddrA 2 1 (.t 4) (.c (V.int 0))),ld 16 1 15,bn 17 .lss 14 16]) (.cond (.t 17) (Qe [2] (.reg [xo 18 (.iaddrA 2 1 (.t 4) (.c (V.int 1))),ld 19 1 18,mv 2 19]) (.ret)) (.skip))))) (.reg [bc 20 .add 11 (V.int 1),mv 11 20]))))))) (Qe [2] (.reg [mc 2 (V.int 256)]) (.ret))) def r_catalog_modulus:List YF:=[.tmp 2]
def yB (Γ:Env) (f:Nat):Prop:=∀ (b:Int),EvN Γ f [V.int b] (V.int (alL b al4))
attribute [local go_sem] Int.reduceLE Int.reduceLT Int.reduceToNat in
theorem afN {Γ:Env} {f:Nat} (h:Has Γ.P f 21 xk r_catalog_modulus) :yB Γ f:=by
 intro b
 refine Qj h zsi zcl zcl fun C hC hm=>?_
 subst hC
 unfold xk
 refine zgo ?_;repeat' first|exact zt|apply zan|intro hc
 refine JM (ι:=Int) (fun k=>0≤k∧k≤5∧alL b (al4.drop k.toNat) = alL b al4) (fun k=>[(11,V.int k)]) (fun k=>(5 - k).toNat) 0 (by omega) ⟨by simp,by simp,rfl⟩ (by repeat' first|exact Yb|refine YR (by omega) (by simp only [Ob.lt,ltL,V.lt,and_self,and_true];try omega) ?_) (fun i hi=>by simp only [ovT,Q9,Nat.reduceEqDiff,reduceIte];(repeat' first|exact YQ|refine Ya ?_ ?_|simp only [V.lt,ltL,and_self,and_true]|omega)) (by simp only [Nat.reduceAdd,ovT,Q9,Nat.reduceEqDiff,reduceIte,Qt,Q0,Uh,u32,u33,u34,u35,u36,u37,u38,u39,and_self,and_true,true_and]) fun k hk K' hL=>?_
 obtain ⟨hk0,hk,hinv⟩:=hk
 simp only [ovT,Q9,Nat.reduceEqDiff,reduceIte]
 rcases (by omega:k = 0∨k = 1∨k = 2∨k = 3∨k = 4∨k = 5) with rfl|rfl|rfl|rfl|rfl|rfl
 all_goals refine zgo ?_;repeat' first|exact zt|apply zan|intro hc
 all_goals first
  | (refine QA _ rfl ?_;simp only [go_sem];rw [← hinv];first|rfl|simp [al4,alL,hc])
  | (refine hL _ 1 (by simp only [Nat.reduceAdd,ovT,Q9,Nat.reduceEqDiff,reduceIte,Qt,Q0,Uh,u32,u33,u34,u35,u36,u37,u38,u39,and_self,and_true,true_and];rfl) ⟨by omega,by omega,?_⟩ (by decide) (fun a ha=>by simp only [u32,u33,u34,u35,u36,u37,u38,u39];repeat rw [if_neg (by omega)]);rw [← hinv];simp [al4,alL,hc])
  | (refine hL _ 2 (by simp only [Nat.reduceAdd,ovT,Q9,Nat.reduceEqDiff,reduceIte,Qt,Q0,Uh,u32,u33,u34,u35,u36,u37,u38,u39,and_self,and_true,true_and];rfl) ⟨by omega,by omega,?_⟩ (by decide) (fun a ha=>by simp only [u32,u33,u34,u35,u36,u37,u38,u39];repeat rw [if_neg (by omega)]);rw [← hinv];simp [al4,alL,hc])
  | (refine hL _ 3 (by simp only [Nat.reduceAdd,ovT,Q9,Nat.reduceEqDiff,reduceIte,Qt,Q0,Uh,u32,u33,u34,u35,u36,u37,u38,u39,and_self,and_true,true_and];rfl) ⟨by omega,by omega,?_⟩ (by decide) (fun a ha=>by simp only [u32,u33,u34,u35,u36,u37,u38,u39];repeat rw [if_neg (by omega)]);rw [← hinv];simp [al4,alL,hc])
  | (refine hL _ 4 (by simp only [Nat.reduceAdd,ovT,Q9,Nat.reduceEqDiff,reduceIte,Qt,Q0,Uh,u32,u33,u34,u35,u36,u37,u38,u39,and_self,and_true,true_and];rfl) ⟨by omega,by omega,?_⟩ (by decide) (fun a ha=>by simp only [u32,u33,u34,u35,u36,u37,u38,u39];repeat rw [if_neg (by omega)]);rw [← hinv];simp [al4,alL,hc])
  | (refine hL _ 5 (by simp only [Nat.reduceAdd,ovT,Q9,Nat.reduceEqDiff,reduceIte,Qt,Q0,Uh,u32,u33,u34,u35,u36,u37,u38,u39,and_self,and_true,true_and];rfl) ⟨by omega,by omega,?_⟩ (by decide) (fun a ha=>by simp only [u32,u33,u34,u35,u36,u37,u38,u39];repeat rw [if_neg (by omega)]);rw [← hinv];simp [al4,alL,hc])
def abm (Xf:Nat):AC:=Qe [0] (.reg [mc 2 (V.str [])]) (Qe [3] (.reg [mv 6 0,cl 7 Xf [6],mv 5 7,ex 8 5 0,ex 9 5 1,xo 3 (.alloc [.val (.string ⟨#[]⟩),.val (.int .i64 0),.val (.int .i64 0),.nil 1,.nil 1]),xs 5 3 8,mv 4 9]) (Qe [2] (.reg [fa 10 0 3,ld 11 1 10,mv 2 11]) (.ret))) def r_catalog_Name:List YF:=[.tmp 2]
def aal (Γ:Env) (f:Nat):Prop:=∀ (a:Int),EvN Γ f [V.int a] (V.str (Yz a).name)
attribute [local go_sem] agY.v in
theorem aiz {Γ:Env} {f Xf:Nat} (h:Has Γ.P f 12 (abm Xf) r_catalog_Name) (z0:yA Γ Xf):aal Γ f:=by
 intro a
 refine Qj h zsi zcl zcl fun C hC hm=>?_
 subst hC
 unfold abm
 refine zgo ?_;repeat' first|exact zt|apply zan|intro hc
 refine QA _ rfl ?_;simp only [go_sem]
def abn (Xf:Nat):AC:=Qe [0] (.reg [mc 2 (V.int 0)]) (Qe [3] (.reg [mv 6 0,cl 7 Xf [6],mv 5 7,ex 8 5 0,ex 9 5 1,xo 3 (.alloc [.val (.string ⟨#[]⟩),.val (.int .i64 0),.val (.int .i64 0),.nil 1,.nil 1]),xs 5 3 8,mv 4 9]) (Qe [2] (.reg [fa 10 1 3,ld 11 1 10,mv 2 11]) (.ret))) def r_catalog_Kind:List YF:=[.tmp 2]
def KG (Γ:Env) (f:Nat):Prop:=∀ (a:Int),EvN Γ f [V.int a] (V.int (Yz a).kind)
attribute [local go_sem] agY.v in
theorem aiA {Γ:Env} {f Xf:Nat} (h:Has Γ.P f 12 (abn Xf) r_catalog_Kind) (z0:yA Γ Xf):KG Γ f:=by
 intro a
 refine Qj h zsi zcl zcl fun C hC hm=>?_
 subst hC
 unfold abn
 refine zgo ?_;repeat' first|exact zt|apply zan|intro hc
 refine QA _ rfl ?_;simp only [go_sem]
def xX (R:agY) (ok:Bool) (b:Int):Int :=
 if ok = false then 0
 else if R.way = 0 then (if b = 0 then R.strengths.headD 0 else 0)
 else if R.way = 1 then (if 512≤b∧b≤16384 then alL b al4 else 0)
 else if R.way = 2 then (if KM b 0 [160,224,256,384,521]≥0 then IntKind.i64.wrap (b.tdiv 2) else 0)
 else if R.way = 3 then (if KM b 0 R.sizes≥0 then R.strengths.getD (KM b 0 R.sizes).toNat 0 else 0)
 else 0
def Yk (a b:Int):Int:=xX (Yz a) (decide (1≤a∧a≤22)) b
def agY.ok (r:agY):Bool:=(r.way != 0 || !r.strengths.isEmpty) && (r.way != 3 || r.sizes.length == r.strengths.length) && decide (r.sizes.length < 10)
theorem arp (a:Int) (ha:1≤a∧a≤22):(Yz a).ok = true:=by
 have h:∀ r∈X8.drop 1,r.ok = true:=by decide
 have hl:X8.length = 23:=rfl
 have hk:a.toNat < X8.length:=by omega
 rw [Yz,if_pos ha,List.getD_eq_getElem?_getD,List.getElem?_eq_getElem hk,Option.getD_some]
 have hk':a.toNat - 1 < (X8.drop 1).length:=by simp;omega
 have:=h _ (List.getElem_mem hk')
 rw [List.getElem_drop] at this
 have e:1 + (a.toNat - 1) = a.toNat:=by omega
 simp only [e] at this
 exact this
theorem amN (x:Int):∀ (l:List Int) (k:Nat),KM x k l = -1∨(k≤KM x k l∧KM x k l < k + l.length)
 | [],k=>.inl rfl
 | y :: r,k=>by
   unfold KM
   split
   ·right;simp;omega
   ·rcases amN x r (k + 1) with h|⟨h1,h2⟩
    ·exact .inl h
    ·right;simp only [List.length_cons];omega
def yb (Xf KV Qh JO:Nat):AC:=Qe [1] (.reg [xo 1 (.box true 2 (.t 0)),mc 2 (V.int 0)]) (Qe [1,3,4] (.reg [fa 7 0 1,ld 8 1 7,cl 9 Xf [8],mv 6 9,ex 10 6 0,ex 11 6 1,xo 3 (.alloc [.val (.string ⟨#[]⟩),.val (.int .i64 0),.val (.int .i64 0),.nil 1,.nil 1]),xs 5 3 10,mv 4 11]) (Qe [1,3] (Qe [1,3,13] (.reg [mv 12 4,xo 13 (.un .not (.t 12))]) (.cond (.t 13) (Qe [2] (.reg [mc 2 (V.int 0)]) (.ret)) (.skip))) (Qe [] (Qe [1,3,15] (.reg [fa 14 2 3,ld 15 1 14]) (.block 0 (Qe [1,3,15,16] (.reg [bc 17 .eql 15 (V.int 0),mv 16 17]) (.cond (.t 16) (Qe [3,20] (.reg [fa 18 1 1,ld 19 1 18,bc 20 .eql 19 (V.int 0)]) (.cond (.t 20) (Qe [2] (.reg [fa 21 4 3,ld 22 1 21,xo 23 (.iaddr 1 (.t 22) (.c (V.int 0))),ld 24 1 23,mv 2 24]) (.ret)) (.skip))) (Qe [1,3,15,25] (.reg [bc 26 .eql 15 (V.int 1),mv 25 26]) (.cond (.t 25) (Qe [1,34] (.reg [fa 27 1 1,ld 28 1 27,bc 29 .geq 28 (V.int 512),mv 30 29,xg 31 (.faddr 1 (.t 1)) 30 true,xg 32 (.load false 1 (.t 31)) 30 true,xg 33 (.bin .leq (.t 32) (.c (V.int 16384))) 30 true,xo 34 (.pick (.t 30) (.t 33) (.c (V.bool false)))]) (.cond (.t 34) (Qe [2] (.reg [fa 35 1 1,ld 36 1 35,cl 37 KV [36],mv 2 37]) (.ret)) (.skip))) (Qe [1,3,15,38] (.reg [bc 39 .eql 15 (V.int 2),mv 38 39]) (.cond (.t 38) (Qe [1,43] (.reg [xo 40 (.bslice 5 1 false [(.int .i64 0)] [(0,(.c (V.int 160))),(1,(.c (V.int 224))),(2,(.c (V.int 256))),(3,(.c (V.int 384))),(4,(.c (V.int 521)))]),fa 41 1 1,ld 42 1 41,cl 43 Qh [40,42]]) (.cond (.t 43) (Qe [2] (.reg [fa 44 1 1,ld 45 1 44,bc 46 .quo 45 (V.int 2),mv 2 46]) (.ret)) (.skip))) (Qe [1,3,47] (.reg [bc 48 .eql 15 (V.int 3),mv 47 48]) (.cond (.t 47) (Qe [3,5] (.reg [fa 49 3 3,ld 50 1 49,fa 51 1 1,ld 52 1 51,cl 53 JO [50,52],mv 5 53]) (Qe [3,5,55] (.reg [mv 54 5,bc 55 .geq 54 (V.int 0)]) (.cond (.t 55) (Qe [2] (.reg [fa 56 4 3,ld 57 1 56,mv 58 5,ia 59 1 57 58,ld 60 1 59,mv 2 60]) (.ret)) (.skip)))) (.skip))))))))))) (Qe [2] (.reg [mc 2 (V.int 0)]) (.ret))))) def r_catalog_Strength:List YF:=[.tmp 2]
def W6 (Γ:Env) (f:Nat):Prop:=∀ (a b:Int),EvN Γ f [.agg [V.int a,V.int b]] (V.int (Yk a b))
attribute [local go_sem] agY.v in
theorem aeX {Γ:Env} {f Xf KV Qh JO:Nat} (h:Has Γ.P f 61 (yb Xf KV Qh JO) r_catalog_Strength) (z0:yA Γ Xf) (z1:yB Γ KV) (z2:JJ Γ Qh) (z3:Wg Γ JO):W6 Γ f:=by
 intro a b
 refine Qj h zsi zcl zcl fun C hC hm=>?_
 subst hC
 unfold yb
 have hc5:=z2 [160,224,256,384,521] b (by simp)
 by_cases ha:1≤a∧a≤22
 ·have hd:decide (1≤a∧a≤22) = true:=by simp [ha]
  have ok:=arp a ha
  have fl:=amN b (Yz a).sizes 0
  rcases hR:Yz a with ⟨nm,kd,wy,sz,st⟩
  rw [hR] at ok fl
  simp only [agY.ok,Bool.and_eq_true,Bool.or_eq_true,decide_eq_true_eq,bne_iff_ne,beq_iff_eq] at ok
  rcases st with _|⟨x,st⟩
  ·(have zy0:=hc5.b;have zx:=And.intro hR hd);refine zgo ?_;repeat' first|exact zt|apply zan|intro hc
   all_goals first
    | (refine QA _ rfl ?_;simp only [go_sem];simp [Yk,xX,hR, *];done)
    | (exfalso;simp only [List.getElem?_eq_none_iff,List.length_cons,List.length_nil,List.isEmpty_nil] at hst fl ok;omega)
    | (exfalso;simp only [List.length_nil] at fl ok;omega)
    | (exfalso;simp_all;done)
  ·rcases hst:(x :: st)[(KM b 0 sz).toNat]? with _|v
   ·have hs2:(V.int x :: List.map V.int st)[(KM b 0 sz).toNat]? = none:=by rw [← List.map_cons,List.getElem?_map,hst];rfl
    (have zy0:=hc5.b;have zx:=And.intro hR (And.intro hd hs2));refine zgo ?_;repeat' first|exact zt|apply zan|intro hc
    all_goals first
     | (refine QA _ rfl ?_;simp only [go_sem];simp [Yk,xX,hR, *];done)
     | (exfalso;simp only [List.getElem?_eq_none_iff,List.length_cons,List.length_nil,List.isEmpty_nil] at hst fl ok;omega)
     | (exfalso;simp_all;done)
   ·have hs2:(V.int x :: List.map V.int st)[(KM b 0 sz).toNat]? = some (V.int v):=by rw [← List.map_cons,List.getElem?_map,hst];rfl
    (have zy0:=hc5.b;have zx:=And.intro hR (And.intro hd hs2));refine zgo ?_;repeat' first|exact zt|apply zan|intro hc
    all_goals first
     | (refine QA _ rfl ?_;simp only [go_sem];simp [Yk,xX,hR, *];done)
     | (exfalso;simp only [List.getElem?_eq_none_iff,List.length_cons,List.length_nil,List.isEmpty_nil] at hst fl ok;omega)
     | (exfalso;simp_all;done)
 ·have hd:decide (1≤a∧a≤22) = false:=by simp [ha]
  (have zx:=hd);refine zgo ?_;repeat' first|exact zt|apply zan|intro hc
  refine QA _ rfl ?_;simp only [go_sem]
  simp [Yk,xX,hd]
end Av
end
