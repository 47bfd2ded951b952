/- Functions that are lent one variable: their contracts, calls by them, their ends. -/
import Derived.Test.YtalpffbofjlfgaaGreatDoorK11
import Derived.Lib.ItoaLen
import Derived.Lib.IndexMore
import Derived.Lib.AtoiAll
import Derived.Test.YtalpffbofjlfgaaGreatDoorK10
set_option linter.unusedVariables false
set_option linter.unusedSimpArgs false
section
set_option linter.unusedSimpArgs false
set_option linter.unusedVariables false
set_option maxRecDepth 10000
namespace Av
open Go
attribute [local irreducible] AWp WY Vp Vq awS awC V1 awQ Uh Q9 YQ VZ awR YT awB okR Ww ris
def jo (s:List UInt8):Int:=match Lib.atoiAll s with|.ok v=>v|.range=>Lib.atoiSat s|_=>0
def ame (s:List UInt8):V:=match Lib.atoiAll s with|.ok _=>.sc .nilIface|_=>.nn
def vU (Γ:Env) (f:Nat):Prop:=∀ (s:List UInt8) (hs:s.length < 4294967281),EvN Γ f [V.str s] (.tup [V.int (jo s),ame s])
def yU (Γ:Env) (f:Nat):Prop:=∀ (n:Int) (h0:-9223372036854775808≤n) (h1:n≤9223372036854775807),EvN Γ f [V.int n] (V.str (Lib.itoa n))
def yM (UD:Nat):AC:=Qo [1] (.reg [xo 1 (.box true 2 (.t 0)),mc 2 (V.bool false)]) (Qo [2] (.reg [xo 3 (.load true 2 (.t 1)),cl 4 UD [3],bc 5 .gtr 4 (V.int 0),mv 2 5]) (.ret)) def r_catalog_Valid:List X0:=[.tmp 2]
def yc (Γ:Env) (f:Nat):Prop:=∀ (a b:Int),EvN Γ f [.agg [V.int a,V.int b]] (V.bool (decide (Vf a b > 0)))
theorem adT {Γ:Env} {f UD:Nat} (h:Has Γ.P f 6 (yM UD) r_catalog_Valid) (abL:K6 Γ UD):yc Γ f:=by
  intro a b
  refine QQ h (by simp) (by simp only [V.closed,Qn,V.noSl,Jx,and_self,and_true,true_and]) (by simp only [V.closed,Qn,V.noSl,Jx,and_self,and_true,true_and]) fun C hC hm=>?_
  subst hC
  unfold yM
  repeat' (first|refine Qb fun K' hK=>?_|refine Qe fun K' hK=>?_|refine Qc ?_|refine Qd ?_|refine Qa ?_|((first|refine Qg ⟨_,rfl,fun hc=>?_,fun hc=>?_⟩|refine Qs (fun hc=>?_) (fun hc=>?_)|refine Qt (fun hc=>?_) (fun hc=>?_))<;>first|(cases hc;done)|((try simp only [znz] at hc);first|exact znf|skip))|refine Qi ?_|refine Qf ?_|simp (maxSteps:=1000000) only [go_sem]|(refine hK _ ?_;clear hK K')|apply And.intro|(apply Qv;(focus first|exact (abL _ _).b))|exact zlo|omega|exact zms)
  refine QM _ rfl ?_;simp only [go_sem]
def aiD (name:List UInt8):Nat→List afc→Int
  | _,[]=>0
  | k,r :: rs=>if 0 < k∧r.name = name then k else aiD name (k + 1) rs
end Av
end
section
namespace Av
open Go
structure EvD (Γ:Env) (f:FuncId) (args:List V) (cs:List V) (res:V) (cs2:List V):Prop where
  ev:Ev Γ f (.ptr 0 0 :: args) [.box true cs] res [.box true cs2]
  cl:res.closed
  c1:Qn cs
  c2:Qn cs2
def Kd:List V→List Nat
  | []=>[]
  | .hd a _ _ :: r=>a :: Kd r
  | .ptr a _ :: r=>a :: Kd r
  | _ :: r=>Kd r
mutual
theorem aiP (o:Nat→Option Ob) (br l:List Nat) (hb:∀ x∈l,x ∉ br):∀ v:V,v.shutOk0 o (some l)→conv o br (some l) v (v.shut0 o)
  | .top,_=>by simp [V.shut0,conv]
  | .sc _,_=>by simp [V.shut0,conv]
  | .nn,_=>by simp [V.shut0,conv]
  | .sl _ _,_=>by simp [V.shut0,conv]
  | .ro _ _,_=>by simp [V.shut0,conv]
  | .ept _ _ _,_=>by simp [V.shut0,conv]
  | .mp _,_=>by simp [V.shut0,conv]
  | .hd a off len,h=>by
    obtain ⟨h1,wr,s,xs,h2⟩:=h
    simp only [V.shut0,h2,conv]
    exact ⟨h1,hb a h1,.inl ⟨wr,xs,rfl,rfl⟩⟩
  | .ptr a off,h=>by
    obtain ⟨h1,wr,cs,h2,h3⟩:=h
    simp only [V.shut0,h2,conv]
    exact ⟨h1,hb a h1,trivial,h3,wr,cs,rfl,YP _ _ _ _ h3⟩
  | .agg cs,h=>by simp only [V.shut0,conv];exact jM o br l hb cs h
  | .tup cs,h=>by simp only [V.shut0,conv];exact jM o br l hb cs h
  | .clo f cs,h=>by simp only [V.shut0,conv];exact ⟨trivial,jM o br l hb cs h⟩
theorem jM (o:Nat→Option Ob) (br l:List Nat) (hb:∀ x∈l,x ∉ br):∀ cs:List V,y6 o (some l) cs→X2 o br (some l) cs (w5 o cs)
  | [],_=>trivial
  | v :: r,h=>⟨aiP o br l hb v h.1,jM o br l hb r h.2⟩
end
mutual
theorem aky (o:Nat→Option Ob) (br l:List Nat) (hb:∀ x∈l,x ∉ br):∀ v:V,v.shutOk o (some l)→conv o br (some l) v (v.shut o)
  | .top,_=>by simp [V.shut,conv]
  | .sc _,_=>by simp [V.shut,conv]
  | .nn,_=>by simp [V.shut,conv]
  | .sl _ _,_=>by simp [V.shut,conv]
  | .ro _ _,_=>by simp [V.shut,conv]
  | .ept _ _ _,_=>by simp [V.shut,conv]
  | .mp _,_=>by simp [V.shut,conv]
  | .hd a off len,h=>by
    obtain ⟨h1,h2⟩:=h
    unfold ao0 at h2
    split at h2
    · rename_i wr s xs h3
      simp only [V.shut,h3,conv]
      exact ⟨h1,hb a h1,.inl ⟨wr,xs,rfl,rfl⟩⟩
    · rename_i wr s xs h3
      simp only [V.shut,h3,conv]
      exact ⟨h1,hb a h1,.inr ⟨wr,xs,rfl,jM _ _ _ hb _ h2.1,h2.2,U9 _ _⟩⟩
    · exact h2.elim
  | .ptr a off,h=>by
    obtain ⟨h1,wr,cs,h2,h3⟩:=h
    simp only [V.shut,h2,conv]
    exact ⟨h1,hb a h1,trivial,h3,wr,cs,rfl,YP _ _ _ _ h3⟩
  | .agg cs,h=>by simp only [V.shut,conv];exact Ud o br l hb cs h
  | .tup cs,h=>by simp only [V.shut,conv];exact Ud o br l hb cs h
  | .clo f cs,h=>by simp only [V.shut,conv];exact ⟨trivial,Ud o br l hb cs h⟩
theorem Ud (o:Nat→Option Ob) (br l:List Nat) (hb:∀ x∈l,x ∉ br):∀ cs:List V,JU o (some l) cs→X2 o br (some l) cs (Wy o cs)
  | [],_=>trivial
  | v :: r,h=>⟨aky o br l hb v h.1,Ud o br l hb r h.2⟩
end
section
variable {Γ:Env} {b:Nat} {r:List AO} {s:St} {d:Option Nat} {f:FuncId} {acts:List V} {res:V} {K:St→Prop} {cs cs2:List V} {a:Nat}
theorem aqi (l:List Nat) (ha:s.o a = some (.box true cs)) (h:EvD Γ f (Wy s.o acts) cs res cs2) (hc:JU s.o (some l) acts) (hal:a ∉ l) (hab:a < b)
    (hk:WY Γ (b + KK) r { t:=(s.put d res).t,o:=upd (abj (some l) [a] s.o) a (some (.box true cs2)),n:=s.n } K):awC Γ b r s d f (.ptr a 0 :: acts) K:=by
  refine jN ⟨_,_,_,_,[a],some l,h.ev,⟨?_,Ud s.o [a] l ?_ acts hc⟩,⟨⟨_,ha,YP _ _ _ _ h.c1⟩,trivial⟩,by simp,by simpa using hab,Nat.le_refl _,by simp [KK],fun h=>by simp at h,?_⟩
  · simp [conv]
  · intro x hx hxa
    simp only [List.mem_singleton] at hxa
    subst hxa;exact hal hx
  · rw [Qj _ _ h.cl]
    simp only [Kl,qW,Ob.ren,Qh _ _ h.c2]
    exact hk
theorem apC (ha:s.o a = some (.box true cs)) (h:EvD Γ f (Wy s.o acts) cs res cs2) (hc:JU s.o (some (Kd acts)) acts) (hal:a ∉ Kd acts) (hab:a < b)
    (hk:WY Γ (b + KK) r { t:=(s.put d res).t,o:=upd (abj (some (Kd acts)) [a] s.o) a (some (.box true cs2)),n:=s.n } K):awC Γ b r s d f (.ptr a 0 :: acts) K:=aqi _ ha h hc hal hab hk
theorem XQ {x:V} {args:List V} {okf:Option (List Nat)→Prop} (ha:s.o a = some (.box true cs)) (h:EvD Γ f args cs res cs2) (hal:(Kd acts).contains a = false) (hab:decide (a < b) = true) (hc:JU s.o (some (Kd acts)) acts)
    (hk:WY Γ (b + KK) r { t:=(s.put d res).t,o:=upd (abj (some (Kd acts)) [a] s.o) a (some (.box true cs2)),n:=s.n } K):anW Γ b r s d f (.ptr a 0 :: acts) (x :: args) okf K:=by
  intro h1 _
  simp only [Wy,List.cons.injEq] at h1
  obtain ⟨_,rfl⟩:=h1
  exact apC ha h hc (by simpa using hal) (of_decide_eq_true hab) hk
theorem ap7 {br:List Nat} {o:Nat→Option Ob}:abj (some []) br o = o:=by
  funext n;simp [abj]
theorem aqr {x a n:Nat} {o:Nat→Option Ob}:abj (some [x]) [a] o n = if n = x then (if x = a then o n else (o n).map Ob.frz) else o n:=by
  simp only [abj,List.mem_singleton]
  by_cases h1:n = x
  · subst h1
    by_cases h2:n = a<;>simp [h2]
  · simp [h1]
end
theorem UU {Γ:Env} {f:FuncId} {nt:Nat} {ac:AC} {rs:List X0} (hb:Has Γ.P f nt ac rs) {args cs cs2:List V} {res:V} (ha:args.length + 1≤nt) (hr:res.closed) (h1:Qn cs) (h2:Qn cs2)
    (h:∀ C:Ctx,C.env = Γ→C.m = 1→AWp C nt ac (UW (.ptr 0 0 :: args) [.box true cs]) (ad8 1 rs res [.box true cs2]) (fun _ _=>False) (ad8 1 rs res [.box true cs2])):EvD Γ f args cs res cs2 :=
  ⟨jc hb (by simpa using ha) h,hr,h1,h2⟩
theorem xj {rs:List X0} {res:V} {s:St} {cs2:List V} (vs:List V) (h:adH s rs = some vs) (ho:s.o 0 = some (.box true cs2)) (h2:Qn cs2) (hc:conv s.o [0] none (ajB vs) res):ad8 1 rs res [.box true cs2] s :=
  wt rs vs _ h ⟨[0],none,hc,⟨⟨_,ho,fun h=>h,YP _ _ _ _ h2⟩,trivial⟩,by simp,rfl⟩
structure EvR (Γ:Env) (f:FuncId) (args:List V) (cs:List V):Prop where
  ev:Ev Γ f args [] (.ptr 0 0) [.box true cs]
  c1:Qn cs
theorem aqe {Γ:Env} {b:Nat} {r:List AO} {s:St} {d:Option Nat} {f:FuncId} {acts cs:List V} {K:St→Prop} (h:EvR Γ f (Wy s.o acts) cs) (hc:JU s.o (some (Kd acts)) acts)
    (hk:WY Γ (b + KK) r { t:=(s.put d (.ptr b 0)).t,o:=upd (abj (some (Kd acts)) [] s.o) b (some (.box true cs)),n:=s.n } K):awC Γ b r s d f acts K:=by
  refine jN ⟨_,_,_,_,[],some (Kd acts),h.ev,Ux _ _ _ hc,trivial,List.nodup_nil,fun x hx=>by simp at hx,by simp,by simp [KK],fun h=>by simp at h,?_⟩
  simp only [Kl,qW,Ob.ren,Qh _ _ h.c1,V.ren,sig]
  exact hk
theorem ajP {Γ:Env} {b:Nat} {r:List AO} {s:St} {d:Option Nat} {f:FuncId} {acts args cs:List V} {K:St→Prop} {okf:Option (List Nat)→Prop} (h:EvR Γ f args cs) (hc:okf (some (Kd acts)))
    (hk:WY Γ (b + KK) r { t:=(s.put d (.ptr b 0)).t,o:=upd (abj (some (Kd acts)) [] s.o) b (some (.box true cs)),n:=s.n } K):anW Γ b r s d f acts args okf K:=by
  rintro rfl rfl;exact aqe h hc hk
theorem aiL {Γ:Env} {f:FuncId} {nt:Nat} {ac:AC} {rs:List X0} (hb:Has Γ.P f nt ac rs) {args cs:List V} (ha:args.length≤nt) (h1:Qn cs)
    (h:∀ C:Ctx,C.env = Γ→C.m = 0→AWp C nt ac (UW args []) (ad8 0 rs (.ptr 0 0) [.box true cs]) (fun _ _=>False) (ad8 0 rs (.ptr 0 0) [.box true cs])):EvR Γ f args cs :=
  ⟨jc hb ha h,h1⟩
theorem apn {rs:List X0} {s:St} {cs:List V} (a:Nat) (h:adH s rs = some [.ptr a 0]) (ho:s.o a = some (.box true cs)) (h2:Qn cs):ad8 0 rs (.ptr 0 0) [.box true cs] s :=
  wt rs _ _ h ⟨[a],none,by simp [ajB,conv],⟨⟨_,ho,fun h=>h,YP _ _ _ _ h2⟩,trivial⟩,by simp,rfl⟩
attribute [go_sem] ap7 aqr Kd Ob.frz
end Av
end
section
set_option linter.unusedSimpArgs false
set_option linter.unusedVariables false
set_option maxRecDepth 10000
namespace Av
open Go
attribute [local irreducible] AWp WY Vp Vq awS awC V1 awQ Uh Q9 YQ VZ awR YT awB okR Ww ris
structure yT where
  code:Int
  name:List UInt8
  kx1:Int
  kx2:Int
  sg1:Int
  sg2:Int
  ci1:Int
  ci2:Int
  mc1:Int
  mc2:Int
  lo:Int
  hi:Int
  deriving DecidableEq
def yT.cells (s:yT):List V:=[V.int s.code,V.str s.name,V.int s.kx1,V.int s.kx2,V.int s.sg1,V.int s.sg2,V.int s.ci1,V.int s.ci2,V.int s.mc1,V.int s.mc2,V.int s.lo,V.int s.hi]
def yT.v (s:yT):V:=.agg s.cells
def ack:List yT:=[⟨1,[114,115,97,45,114,99,52,45,109,100,53],10,0,5,0,14,128,19,0,1,2⟩,⟨2,[114,115,97,45,114,99,52,45,115,104,97],10,0,5,0,14,128,20,0,1,3⟩,⟨3,[114,115,97,45,100,101,115,51,45,115,104,97],10,0,5,0,15,168,20,0,1,3⟩,⟨4,[100,104,101,45,100,115,97,45,100,101,115,51,45,115,104,97],11,1024,6,0,15,168,20,0,1,3⟩,⟨5,[100,104,101,45,114,115,97,45,100,101,115,51,45,115,104,97],11,1024,5,0,15,168,20,0,1,3⟩,⟨6,[114,115,97,45,97,101,115,49,50,56,45,115,104,97],10,0,5,0,16,128,20,0,1,3⟩,⟨7,[100,104,101,45,114,115,97,45,97,101,115,49,50,56,45,115,104,97],11,2048,5,0,16,128,20,0,1,3⟩,⟨8,[101,99,100,104,101,45,114,115,97,45,97,101,115,49,50,56,45,115,104,97],12,256,5,0,16,128,20,0,1,3⟩,⟨9,[101,99,100,104,101,45,101,99,100,115,97,45,97,101,115,50,53,54,45,115,104,97,50,53,54],12,256,7,0,16,256,21,0,3,3⟩,⟨10,[101,99,100,104,101,45,114,115,97,45,97,101,115,49,50,56,45,103,99,109],12,256,5,0,17,128,22,0,3,3⟩,⟨11,[101,99,100,104,101,45,101,99,100,115,97,45,97,101,115,50,53,54,45,103,99,109],12,384,7,0,17,256,22,0,3,3⟩,⟨12,[101,99,100,104,101,45,114,115,97,45,99,104,97,99,104,97],12,256,5,0,18,0,22,0,3,3⟩,⟨13,[114,115,97,45,97,101,115,50,53,54,45,103,99,109],10,0,5,0,17,256,22,0,3,3⟩,⟨14,[97,101,115,49,50,56,45,103,99,109],12,256,0,0,17,128,22,0,4,4⟩,⟨15,[99,104,97,99,104,97],12,256,0,0,18,0,22,0,4,4⟩,⟨16,[109,108,107,101,109,45,97,101,115,50,53,54,45,103,99,109],13,768,0,0,17,256,22,0,4,4⟩]
end Av
end
section
set_option linter.unusedSimpArgs false
set_option linter.unusedVariables false
set_option maxRecDepth 10000
namespace Av
open Go
attribute [local irreducible] AWp WY Vp Vq awS awC V1 awQ Uh Q9 YQ VZ awR YT awB okR Ww ris
end Av
end
section
set_option linter.unusedSimpArgs false
set_option linter.unusedVariables false
set_option maxRecDepth 10000
set_option maxHeartbeats 4000000
namespace Av
open Go
attribute [local irreducible] AWp WY Vp Vq awS awC V1 awQ Uh Q9 YQ VZ awR YT awB okR Ww ris
end Av
end
section
set_option linter.unusedSimpArgs false
set_option linter.unusedVariables false
set_option maxHeartbeats 4000000
set_option maxRecDepth 10000
namespace Av
open Go
attribute [local irreducible] AWp WY Vp Vq awS awC V1 awQ Uh Q9 YQ VZ awR YT awB okR Ww ris
def yP (b:Int):List Int→List Int→Int
  | x :: xs,y :: ys=>if x = b then y else yP b xs ys
  | _,_=>0
def wE:AC:=Qo [0,1,2] (.reg [mc 6 (V.int 0)]) (Qo [] (Qo [0,1,2,7] (.reg [mc 7 (V.int 0)]) (.block 0 (X1 [0,1,2,7] (Qo [0,1,2,7] (Qo [0,1,2,7,11] (.reg [mv 8 7,mv 9 1,ln 10 9,bn 11 .lss 8 10]) (.cond (.t 11) (.skip) (.exit 0))) (Qo [0,1,2,7] (.block 1 (Qo [0,1,2,7,19] (.reg [mv 14 1,mv 15 7,ia 16 1 14 15,ld 17 1 16,mv 18 0,bn 19 .eql 17 18]) (.cond (.t 19) (Qo [6] (.reg [mv 20 2,mv 21 7,ia 22 1 20 21,ld 23 1 22,mv 6 23]) (.ret)) (.skip)))) (.reg [mv 12 7,bc 13 .add 12 (V.int 1),mv 7 13])))))) (Qo [6] (.reg [mc 6 (V.int 0)]) (.ret))) def r_ref02_among:List X0:=[.tmp 6]
def xO (Γ:Env) (f:Nat):Prop:=∀ (b:Int) (xs ys:List Int) (hs:xs.length≤ys.length) (h2:xs.length < 2 ^ 62),EvN Γ f [V.int b,.sl 1 (xs.map V.int),.sl 1 (ys.map V.int)] (V.int (yP b xs ys))
theorem aft {Γ:Env} {f:Nat} (h:Has Γ.P f 24 wE r_ref02_among) :xO Γ f:=by
  intro b xs ys hs h2
  refine QQ h (by simp) (by simp only [V.closed,Qn,V.noSl,Jx,and_self,and_true,true_and]) (by simp only [V.closed,Qn,V.noSl,Jx,and_self,and_true,true_and]) fun C hC hm=>?_
  subst hC
  unfold wE
  repeat' (first|refine Qb fun K' hK=>?_|refine Qe fun K' hK=>?_|refine Qc ?_|refine Qd ?_|refine Qa ?_|((first|refine Qg ⟨_,rfl,fun hc=>?_,fun hc=>?_⟩|refine Qs (fun hc=>?_) (fun hc=>?_)|refine Qt (fun hc=>?_) (fun hc=>?_))<;>first|(cases hc;done)|((try simp only [znz] at hc);first|exact znf|skip))|refine Qi ?_|refine Qf ?_|simp (maxSteps:=1000000) only [go_sem]|(refine hK _ ?_;clear hK K')|apply And.intro|exact zlo|omega|exact zms)
  refine Xf (ι:=Nat) (fun k=>k≤xs.length∧yP b (xs.drop k) (ys.drop k) = yP b xs ys) (fun k=>[(7,V.int k)]) (fun k=>xs.length - k) 0 (by omega) ⟨by simp,by simp⟩ (by repeat' first|exact We|refine Vk (by omega) (by simp only [Ob.lt,ltL,V.lt,and_self,and_true];try omega) ?_) (fun i hi=>by simp only [ovT,J5,Nat.reduceEqDiff,reduceIte];(repeat' first|exact Vj|refine Wd ?_ ?_|simp only [V.lt,ltL,and_self,and_true]|omega)) (by simp only [Nat.reduceAdd,ovT,J5,Nat.reduceEqDiff,reduceIte,JA,JW,qV,u32,u33,u34,u35,u36,u37,u38,u39,and_self,and_true,true_and];rfl) fun k hk K' hL=>?_
  obtain ⟨hk,hinv⟩:=hk
  simp only [ovT,J5,Nat.reduceEqDiff,reduceIte]
  rcases hd:xs.drop k with _|⟨x,r⟩
  · have:=Xx hd
    rw [hd] at hinv
    repeat' (first|refine Qb fun K' hK=>?_|refine Qe fun K' hK=>?_|refine Qc ?_|refine Qd ?_|refine Qa ?_|((first|refine Qg ⟨_,rfl,fun hc=>?_,fun hc=>?_⟩|refine Qs (fun hc=>?_) (fun hc=>?_)|refine Qt (fun hc=>?_) (fun hc=>?_))<;>first|(cases hc;done)|((try simp only [znz] at hc);first|exact znf|skip))|refine Qi ?_|refine Qf ?_|simp (maxSteps:=1000000) only [go_sem]|(refine hK _ ?_;clear hK K')|apply And.intro|exact zlo|omega|exact zms)
    refine QM _ rfl ?_;simp only [go_sem]
    rw [← hinv];simp [yP]
  · obtain ⟨hk',hget,hr⟩:=Yy hd
    rcases hd2:ys.drop k with _|⟨y,r2⟩
    · have:=Xx hd2;omega
    · obtain ⟨hk2,hget2,hr2⟩:=Yy hd2
      rw [hd,hd2] at hinv
      have hw:=Jq (k:=k) (by omega)
      repeat' (first|refine Qb fun K' hK=>?_|refine Qe fun K' hK=>?_|refine Qc ?_|refine Qd ?_|refine Qa ?_|((first|refine Qg ⟨_,rfl,fun hc=>?_,fun hc=>?_⟩|refine Qs (fun hc=>?_) (fun hc=>?_)|refine Qt (fun hc=>?_) (fun hc=>?_))<;>first|(cases hc;done)|((try simp only [znz] at hc);first|exact znf|skip))|refine Qi ?_|refine Qf ?_|simp (maxSteps:=1000000) only [go_sem,Int.toNat_natCast,List.getElem?_map,hget,hget2,hw]|(refine hK _ ?_;clear hK K')|apply And.intro|exact zlo|omega|exact zms)
      · refine QM _ rfl ?_;simp only [go_sem]
        rw [← hinv];simp [yP,hc]
      · refine hL _ (k + 1) (by simp only [Nat.reduceAdd,ovT,J5,Nat.reduceEqDiff,reduceIte,JA,JW,qV,u32,u33,u34,u35,u36,u37,u38,u39,and_self,and_true,true_and]) ⟨by omega,?_⟩ (by omega) (fun a ha=>by simp only [u32,u33,u34,u35,u36,u37,u38,u39];repeat rw [if_neg (by omega)])
        rw [hr,hr2,← hinv,yP,if_neg hc]
def aaI (a:Int):Int:=if a = 1 then 18 else if a = 2 then 60 else if a = 3∨a = 8∨a = 21 then 128 else if a = 4 then 192 else if a = 18∨a = 22 then 256 else if a = 19 then 64 else if a = 20 then 80 else 0
def apP (b:Int):Int:=if b < 512∨16384 < b then 0 else akl b akW
def xE:AC:=Qo [0] (.reg [mc 2 (V.int 0)]) (Qo [] (Qo [3] (.reg [mv 3 0]) (.block 0 (Qo [3,4] (.reg [bc 5 .eql 3 (V.int 1),mv 4 5]) (.cond (.t 4) (Qo [2] (.reg [mc 2 (V.int 18)]) (.ret)) (Qo [3,6] (.reg [bc 7 .eql 3 (V.int 2),mv 6 7]) (.cond (.t 6) (Qo [2] (.reg [mc 2 (V.int 60)]) (.ret)) (Qo [3,8] (Qo [3,8] (.reg [bc 9 .eql 3 (V.int 3),mv 8 9]) (.cond (.t 8) (.skip) (Qo [3,8] (.reg [bc 10 .eql 3 (V.int 8),mv 8 10]) (.cond (.t 8) (.skip) (.reg [bc 11 .eql 3 (V.int 21),mv 8 11]))))) (.cond (.t 8) (Qo [2] (.reg [mc 2 (V.int 128)]) (.ret)) (Qo [3,12] (.reg [bc 13 .eql 3 (V.int 4),mv 12 13]) (.cond (.t 12) (Qo [2] (.reg [mc 2 (V.int 192)]) (.ret)) (Qo [3,14] (Qo [3,14] (.reg [bc 15 .eql 3 (V.int 18),mv 14 15]) (.cond (.t 14) (.skip) (.reg [bc 16 .eql 3 (V.int 22),mv 14 16]))) (.cond (.t 14) (Qo [2] (.reg [mc 2 (V.int 256)]) (.ret)) (Qo [3,17] (.reg [bc 18 .eql 3 (V.int 19),mv 17 18]) (.cond (.t 17) (Qo [2] (.reg [mc 2 (V.int 64)]) (.ret)) (Qo [19] (.reg [bc 20 .eql 3 (V.int 20),mv 19 20]) (.cond (.t 19) (Qo [2] (.reg [mc 2 (V.int 80)]) (.ret)) (.skip))))))))))))))))) (Qo [2] (.reg [mc 2 (V.int 0)]) (.ret))) def r_ref02_single:List X0:=[.tmp 2]
def yV (Γ:Env) (f:Nat):Prop:=∀ (a:Int),EvN Γ f [V.int a] (V.int (aaI a))
theorem aeM {Γ:Env} {f:Nat} (h:Has Γ.P f 21 xE r_ref02_single) :yV Γ f:=by
  intro a
  refine QQ h (by simp) (by simp only [V.closed,Qn,V.noSl,Jx,and_self,and_true,true_and]) (by simp only [V.closed,Qn,V.noSl,Jx,and_self,and_true,true_and]) fun C hC hm=>?_
  subst hC
  unfold xE
  repeat' (first|refine Qb fun K' hK=>?_|refine Qe fun K' hK=>?_|refine Qc ?_|refine Qd ?_|refine Qa ?_|((first|refine Qg ⟨_,rfl,fun hc=>?_,fun hc=>?_⟩|refine Qs (fun hc=>?_) (fun hc=>?_)|refine Qt (fun hc=>?_) (fun hc=>?_))<;>first|(cases hc;done)|((try simp only [znz] at hc);first|exact znf|skip))|refine Qi ?_|refine Qf ?_|simp (maxSteps:=1000000) only [go_sem]|(refine hK _ ?_;clear hK K')|apply And.intro|exact zlo|omega|exact zms)
  all_goals (refine QM _ rfl ?_;simp only [go_sem];simp [aaI, *])
def yE:AC:=Qo [0] (.reg [mc 2 (V.int 0)]) (Qo [] (.block 0 (Qo [0,3] (.reg [mv 4 0,bc 5 .lss 4 (V.int 512),mv 6 5,mg 7 0 6 false,xg 8 (.bin .gtr (.t 7) (.c (V.int 16384))) 6 false,xo 9 (.pick (.t 6) (.c (V.bool true)) (.t 8)),mv 3 9]) (.cond (.t 3) (Qo [2] (.reg [mc 2 (V.int 0)]) (.ret)) (Qo [0,10] (.reg [mv 11 0,bc 12 .lss 11 (V.int 1024),mv 10 12]) (.cond (.t 10) (Qo [2] (.reg [mc 2 (V.int 56)]) (.ret)) (Qo [0,13] (.reg [mv 14 0,bc 15 .lss 14 (V.int 2048),mv 13 15]) (.cond (.t 13) (Qo [2] (.reg [mc 2 (V.int 80)]) (.ret)) (Qo [0,16] (.reg [mv 17 0,bc 18 .lss 17 (V.int 3072),mv 16 18]) (.cond (.t 16) (Qo [2] (.reg [mc 2 (V.int 112)]) (.ret)) (Qo [0,19] (.reg [mv 20 0,bc 21 .lss 20 (V.int 7680),mv 19 21]) (.cond (.t 19) (Qo [2] (.reg [mc 2 (V.int 128)]) (.ret)) (Qo [22] (.reg [mv 23 0,bc 24 .lss 23 (V.int 15360),mv 22 24]) (.cond (.t 22) (Qo [2] (.reg [mc 2 (V.int 192)]) (.ret)) (.skip)))))))))))))) (Qo [2] (.reg [mc 2 (V.int 256)]) (.ret))) def r_ref02_modulus:List X0:=[.tmp 2]
def j7 (Γ:Env) (f:Nat):Prop:=∀ (b:Int),EvN Γ f [V.int b] (V.int (apP b))
theorem adK {Γ:Env} {f:Nat} (h:Has Γ.P f 25 yE r_ref02_modulus) :j7 Γ f:=by
  intro b
  refine QQ h (by simp) (by simp only [V.closed,Qn,V.noSl,Jx,and_self,and_true,true_and]) (by simp only [V.closed,Qn,V.noSl,Jx,and_self,and_true,true_and]) fun C hC hm=>?_
  subst hC
  unfold yE
  repeat' (first|refine Qb fun K' hK=>?_|refine Qe fun K' hK=>?_|refine Qc ?_|refine Qd ?_|refine Qa ?_|((first|refine Qg ⟨_,rfl,fun hc=>?_,fun hc=>?_⟩|refine Qs (fun hc=>?_) (fun hc=>?_)|refine Qt (fun hc=>?_) (fun hc=>?_))<;>first|(cases hc;done)|((try simp only [znz] at hc);first|exact znf|skip))|refine Qi ?_|refine Qf ?_|simp (maxSteps:=1000000) only [go_sem]|(refine hK _ ?_;clear hK K')|apply And.intro|exact zlo|omega|exact zms)
  all_goals (refine QM _ rfl ?_;simp only [go_sem];simp only [apP,akl,akW];repeat' split)<;>omega
def wb (a b:Int):Int :=
  if a = 5∨a = 6∨a = 10∨a = 11 then apP b
  else if a = 7∨a = 12 then (if b = 160∨b = 224∨b = 256∨b = 384∨b = 521 then IntKind.i64.wrap (b.tdiv 2) else 0)
  else if a = 9 then yP b [44,65,87] [128,192,256]
  else if a = 13 then yP b [512,768,1024] [128,192,256]
  else if a = 14 then yP b [40,128] [40,60]
  else if a = 15 then yP b [112,168] [80,112]
  else if a = 16∨a = 17 then yP b [128,256] [128,256]
  else yP b [0] [aaI a]
theorem ajY (a:Int) (ha:¬ (1≤a∧a≤22)):aaI a = 0:=by
  simp only [aaI];repeat' split
  all_goals omega
theorem afg (a b:Int):wb a b = Vf a b:=by
  by_cases ha:1≤a∧a≤22
  · rcases (by omega:a = 1∨a = 2∨a = 3∨a = 4∨a = 5∨a = 6∨a = 7∨a = 8∨a = 9∨a = 10∨a = 11∨a = 12∨a = 13∨a = 14∨a = 15∨a = 16∨a = 17∨a = 18∨a = 19∨a = 20∨a = 21∨a = 22) with rfl|rfl|rfl|rfl|rfl|rfl|rfl|rfl|rfl|rfl|rfl|rfl|rfl|rfl|rfl|rfl|rfl|rfl|rfl|rfl|rfl|rfl
    all_goals simp [wb,Vf,yp,vH,vo,yP,aaI,xA,apP]
    all_goals (repeat' split)<;>first|omega|rfl|simp_all
  · have hs:=ajY a ha
    rw [Vf,yp,if_pos (by simp [ha])]
    simp only [wb]
    rw [if_neg (by omega),if_neg (by omega),if_neg (by omega),if_neg (by omega),if_neg (by omega),if_neg (by omega),if_neg (by omega),hs]
    simp [yP]
def jV (qm W9 jA:Nat):AC:=Qo [1] (.reg [xo 1 (.box true 2 (.t 0)),mc 2 (V.int 0)]) (Qo [1,3] (.reg [fa 4 1 1,ld 5 1 4,mv 3 5]) (Qo [1,3] (Qo [1,3,7] (.reg [fa 6 0 1,ld 7 1 6]) (.block 0 (Qo [1,3,7,8] (Qo [1,3,7,8] (.reg [bc 9 .eql 7 (V.int 5),mv 8 9]) (.cond (.t 8) (.skip) (Qo [1,3,7,8] (.reg [bc 10 .eql 7 (V.int 6),mv 8 10]) (.cond (.t 8) (.skip) (Qo [1,3,7,8] (.reg [bc 11 .eql 7 (V.int 10),mv 8 11]) (.cond (.t 8) (.skip) (.reg [bc 12 .eql 7 (V.int 11),mv 8 12]))))))) (.cond (.t 8) (Qo [2] (.reg [mv 13 3,cl 14 qm [13],mv 2 14]) (.ret)) (Qo [1,3,7,15] (Qo [1,3,7,15] (.reg [bc 16 .eql 7 (V.int 7),mv 15 16]) (.cond (.t 15) (.skip) (.reg [bc 17 .eql 7 (V.int 12),mv 15 17]))) (.cond (.t 15) (Qo [] (Qo [3,35] (.reg [mv 18 3,bc 19 .eql 18 (V.int 160),mv 20 19,mg 21 3 20 false,xg 22 (.bin .eql (.t 21) (.c (V.int 224))) 20 false,xo 23 (.pick (.t 20) (.c (V.bool true)) (.t 22)),mv 24 23,mg 25 3 24 false,xg 26 (.bin .eql (.t 25) (.c (V.int 256))) 24 false,xo 27 (.pick (.t 24) (.c (V.bool true)) (.t 26)),mv 28 27,mg 29 3 28 false,xg 30 (.bin .eql (.t 29) (.c (V.int 384))) 28 false,xo 31 (.pick (.t 28) (.c (V.bool true)) (.t 30)),mv 32 31,mg 33 3 32 false,xg 34 (.bin .eql (.t 33) (.c (V.int 521))) 32 false,xo 35 (.pick (.t 32) (.c (V.bool true)) (.t 34))]) (.cond (.t 35) (Qo [2] (.reg [mv 36 3,bc 37 .quo 36 (V.int 2),mv 2 37]) (.ret)) (.skip))) (Qo [2] (.reg [mc 2 (V.int 0)]) (.ret))) (Qo [1,3,7,38] (.reg [bc 39 .eql 7 (V.int 9),mv 38 39]) (.cond (.t 38) (Qo [2] (.reg [mv 40 3,xo 41 (.bslice 3 1 false [(.int .i64 0)] [(0,(.c (V.int 44))),(1,(.c (V.int 65))),(2,(.c (V.int 87)))]),xo 42 (.bslice 3 1 false [(.int .i64 0)] [(0,(.c (V.int 128))),(1,(.c (V.int 192))),(2,(.c (V.int 256)))]),cl 43 W9 [40,41,42],mv 2 43]) (.ret)) (Qo [1,3,7,44] (.reg [bc 45 .eql 7 (V.int 13),mv 44 45]) (.cond (.t 44) (Qo [2] (.reg [mv 46 3,xo 47 (.bslice 3 1 false [(.int .i64 0)] [(0,(.c (V.int 512))),(1,(.c (V.int 768))),(2,(.c (V.int 1024)))]),xo 48 (.bslice 3 1 false [(.int .i64 0)] [(0,(.c (V.int 128))),(1,(.c (V.int 192))),(2,(.c (V.int 256)))]),cl 49 W9 [46,47,48],mv 2 49]) (.ret)) (Qo [1,3,7,50] (.reg [bc 51 .eql 7 (V.int 14),mv 50 51]) (.cond (.t 50) (Qo [2] (.reg [mv 52 3,xo 53 (.bslice 2 1 false [(.int .i64 0)] [(0,(.c (V.int 40))),(1,(.c (V.int 128)))]),xo 54 (.bslice 2 1 false [(.int .i64 0)] [(0,(.c (V.int 40))),(1,(.c (V.int 60)))]),cl 55 W9 [52,53,54],mv 2 55]) (.ret)) (Qo [1,3,7,56] (.reg [bc 57 .eql 7 (V.int 15),mv 56 57]) (.cond (.t 56) (Qo [2] (.reg [mv 58 3,xo 59 (.bslice 2 1 false [(.int .i64 0)] [(0,(.c (V.int 112))),(1,(.c (V.int 168)))]),xo 60 (.bslice 2 1 false [(.int .i64 0)] [(0,(.c (V.int 80))),(1,(.c (V.int 112)))]),cl 61 W9 [58,59,60],mv 2 61]) (.ret)) (Qo [1,3,62] (Qo [1,3,7,62] (.reg [bc 63 .eql 7 (V.int 16),mv 62 63]) (.cond (.t 62) (.skip) (.reg [bc 64 .eql 7 (V.int 17),mv 62 64]))) (.cond (.t 62) (Qo [2] (.reg [mv 65 3,xo 66 (.bslice 2 1 false [(.int .i64 0)] [(0,(.c (V.int 128))),(1,(.c (V.int 256)))]),xo 67 (.bslice 2 1 false [(.int .i64 0)] [(0,(.c (V.int 128))),(1,(.c (V.int 256)))]),cl 68 W9 [65,66,67],mv 2 68]) (.ret)) (.skip))))))))))))))))) (Qo [2] (.reg [mv 69 3,xo 70 (.bslice 1 1 false [(.int .i64 0)] [(0,(.c (V.int 0)))]),fa 71 0 1,ld 72 1 71,cl 73 jA [72],xo 74 (.bslice 1 1 false [(.int .i64 0)] [(0,(.t 73))]),cl 75 W9 [69,70,74],mv 2 75]) (.ret)))) def r_ref02_Strength:List X0:=[.tmp 2]
def jt (Γ:Env) (f:Nat):Prop:=∀ (a b:Int),EvN Γ f [.agg [V.int a,V.int b]] (V.int (Vf a b))
theorem acV {Γ:Env} {f qm W9 jA:Nat} (h:Has Γ.P f 76 (jV qm W9 jA) r_ref02_Strength) (aeH:j7 Γ qm) (Ub:xO Γ W9) (afn:yV Γ jA):jt Γ f:=by
  intro a b
  refine QQ h (by simp) (by simp only [V.closed,Qn,V.noSl,Jx,and_self,and_true,true_and]) (by simp only [V.closed,Qn,V.noSl,Jx,and_self,and_true,true_and]) fun C hC hm=>?_
  subst hC
  unfold jV
  rw [← afg]
  have k1:=Ub b [44,65,87] [128,192,256] (by simp) (by simp)
  have k2:=Ub b [512,768,1024] [128,192,256] (by simp) (by simp)
  have k3:=Ub b [40,128] [40,60] (by simp) (by simp)
  have k4:=Ub b [112,168] [80,112] (by simp) (by simp)
  have k5:=Ub b [128,256] [128,256] (by simp) (by simp)
  have k6:=Ub b [0] [aaI a] (by simp) (by simp)
  repeat' (first|refine Qb fun K' hK=>?_|refine Qe fun K' hK=>?_|refine Qc ?_|refine Qd ?_|refine Qa ?_|((first|refine Qg ⟨_,rfl,fun hc=>?_,fun hc=>?_⟩|refine Qs (fun hc=>?_) (fun hc=>?_)|refine Qt (fun hc=>?_) (fun hc=>?_))<;>first|(cases hc;done)|((try simp only [znz] at hc);first|exact znf|skip))|refine Qi ?_|refine Qf ?_|simp (maxSteps:=1000000) only [go_sem]|(refine hK _ ?_;clear hK K')|apply And.intro|(apply Qv;(focus first|exact k1.b|exact k2.b|exact k3.b|exact k4.b|exact k5.b|exact k6.b|exact (aeH _).b|exact (Ub _ _ _ zsd zsd).b|exact (afn _).b))|exact zlo|omega|exact zms)
  all_goals (refine QM _ rfl ?_;simp only [go_sem];simp [wb, *])
def wF (Kx:Nat):AC:=Qo [1] (.reg [xo 1 (.box true 2 (.t 0)),mc 2 (V.bool false)]) (Qo [2] (.reg [xo 3 (.load true 2 (.t 1)),cl 4 Kx [3],bc 5 .gtr 4 (V.int 0),mv 2 5]) (.ret)) def r_ref02_Valid:List X0:=[.tmp 2]
def xP (Γ:Env) (f:Nat):Prop:=∀ (a b:Int),EvN Γ f [.agg [V.int a,V.int b]] (V.bool (decide (Vf a b > 0)))
theorem afu {Γ:Env} {f Kx:Nat} (h:Has Γ.P f 6 (wF Kx) r_ref02_Valid) (adG:jt Γ Kx):xP Γ f:=by
  intro a b
  refine QQ h (by simp) (by simp only [V.closed,Qn,V.noSl,Jx,and_self,and_true,true_and]) (by simp only [V.closed,Qn,V.noSl,Jx,and_self,and_true,true_and]) fun C hC hm=>?_
  subst hC
  unfold wF
  repeat' (first|refine Qb fun K' hK=>?_|refine Qe fun K' hK=>?_|refine Qc ?_|refine Qd ?_|refine Qa ?_|((first|refine Qg ⟨_,rfl,fun hc=>?_,fun hc=>?_⟩|refine Qs (fun hc=>?_) (fun hc=>?_)|refine Qt (fun hc=>?_) (fun hc=>?_))<;>first|(cases hc;done)|((try simp only [znz] at hc);first|exact znf|skip))|refine Qi ?_|refine Qf ?_|simp (maxSteps:=1000000) only [go_sem]|(refine hK _ ?_;clear hK K')|apply And.intro|(apply Qv;(focus first|exact (adG _ _).b))|exact zlo|omega|exact zms)
  refine QM _ rfl ?_;simp only [go_sem]
end Av
end
section
set_option linter.unusedSimpArgs false
set_option linter.unusedVariables false
set_option maxRecDepth 10000
set_option maxHeartbeats 4000000
namespace Av
open Go
attribute [local irreducible] AWp WY Vp Vq awS awC V1 awQ Uh Q9 YQ VZ awR YT awB okR Ww ris
theorem anY {n:Int} (h0:0≤n) (h1:n < 256):IntKind.u8.wrap n = n:=by
  have e1:IntKind.u8.bits = 8:=rfl
  have e2:IntKind.u8.signed = false:=rfl
  simp only [IntKind.wrap,e1,e2,Bool.false_and]
  simp;omega
end Av
end
