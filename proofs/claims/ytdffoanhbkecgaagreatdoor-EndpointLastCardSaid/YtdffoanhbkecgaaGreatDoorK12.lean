/- Functions that are lent one variable: their contracts, calls by them, their ends. -/
import Derived.Test.YtdffoanhbkecgaaGreatDoorK11
import Derived.Lib.ItoaLen
import Derived.Lib.IndexMore
import Derived.Lib.AtoiAll
import Derived.Test.YtdffoanhbkecgaaGreatDoorK10
set_option linter.unusedVariables false
set_option linter.unusedSimpArgs false
section
set_option linter.unusedSimpArgs false
set_option linter.unusedVariables false
set_option maxRecDepth 10000
namespace Av
open Go
attribute [local irreducible] AWp V7 Kz KE awS awC jS awQ jY JB Wl jJ awR Ws awB okR Vo ris
def qK (s:List UInt8):Int:=match Lib.atoiAll s with|.ok v=>v|.range=>Lib.atoiSat s|_=>0
def ajH (s:List UInt8):V:=match Lib.atoiAll s with|.ok _=>.sc .nilIface|_=>.nn
def vJ (Γ:Env) (f:Nat):Prop:=∀ (s:List UInt8) (hs:s.length < 4294967281),EvN Γ f [V.str s] (.tup [V.int (qK s),ajH s])
def vI (Γ:Env) (f:Nat):Prop:=∀ (n:Int) (h0:-9223372036854775808≤n) (h1:n≤9223372036854775807),EvN Γ f [V.int n] (V.str (Lib.itoa n))
theorem agf (x:Int):∀ (l:List Int) (k:Nat),0≤Uy x k l→x∈l
  | [],k,h=>by simp [Uy] at h
  | y :: r,k,h=>by
    unfold Uy at h
    split at h
    · rename_i e;simp [e]
    · exact List.mem_cons_of_mem _ (agf x r (k + 1) h)
def Vs (name:List UInt8):Nat→List abB→Int
  | _,[]=>0
  | k,r :: rs=>if 0 < k∧r.name = name then k else Vs name (k + 1) rs
theorem ai3 (k:Nat) (h:k < 23) {r:abB} (hr:YV[k]? = some r):(ae4.drop (k * 5)).take 5 = r.v:=by
  have hk:k < YV.length:=h
  rw [ae4,abW (f:=abB.v) (n:=5) (fun _=>rfl) YV k hk]
  rw [List.getElem?_eq_getElem hk] at hr
  cases hr;rfl
def xj (XF:Nat):AC:=QF [0] (.reg [mc 2 (V.int 0)]) (QF [] (QF [0,5,6] (.reg [cl 5 XF [],mc 6 (V.int 0)]) (.block 0 (Wv [0,5,6] (QF [0,5,6,7] (.reg [bc 7 .lss 6 (V.int 23)]) (QF [0,5,6] (.cond (.t 7) (.skip) (.exit 0)) (QF [0,5,6] (.block 1 (QF [0,3,4,5,6] (.reg [mv 8 6,xo 9 (.idxA true 23 5 (.t 5) (.t 6)),xo 4 (.alloc [.val (.string ⟨#[]⟩),.val (.int .i64 0),.val (.int .i64 0),.nil 1,.nil 1]),mv 3 8,xs 5 4 9]) (QF [0,3,5,6,17] (.reg [mv 10 3,bc 11 .gtr 10 (V.int 0),mv 12 11,xg 13 (.faddr 0 (.t 4)) 12 true,xg 14 (.load false 1 (.t 13)) 12 true,mg 15 0 12 true,xg 16 (.bin .eql (.t 14) (.t 15)) 12 true,xo 17 (.pick (.t 12) (.t 16) (.c (V.bool false)))]) (.cond (.t 17) (QF [2] (.reg [mv 18 3,mv 2 18]) (.ret)) (.skip))))) (.reg [bc 19 .add 6 (V.int 1),mv 6 19]))))))) (QF [2] (.reg [mc 2 (V.int 0)]) (.ret))) def r_catalog_Find:List Y9:=[.tmp 2]
def yo (Γ:Env) (f:Nat):Prop:=∀ (s:List UInt8),EvN Γ f [V.str s] (V.int (Vs s 0 YV))
theorem adH {Γ:Env} {f XF:Nat} (h:Has Γ.P f 20 (xj XF) r_catalog_Find) (U4:qj Γ XF):yo Γ f:=by
  intro s
  refine Jb h (by simp) (by simp only [V.closed,Qw,V.noSl,JL,and_self,and_true,true_and]) (by simp only [V.closed,Qw,V.noSl,JL,and_self,and_true,true_and]) fun C hC hm=>?_
  subst hC
  unfold xj
  repeat' (first|refine Qp fun K' hK=>?_|refine Qt fun K' hK=>?_|refine Qq ?_|refine Qr ?_|refine Qa ?_|((first|refine Qs ⟨_,rfl,fun hc=>?_,fun hc=>?_⟩|refine QM (fun hc=>?_) (fun hc=>?_)|refine QN (fun hc=>?_) (fun hc=>?_))<;>first|(cases hc;done)|((try simp only [znz] at hc);first|exact znf|skip))|refine Qv ?_|refine Qu ?_|simp (maxSteps:=1000000) only [go_sem]|(refine hK _ ?_;clear hK K')|apply And.intro|(apply QX;(focus first|exact EvC.b U4))|exact zlo|omega|exact zms)
  refine Wz (ι:=Nat) (fun k=>k≤23∧Vs s k (YV.drop k) = Vs s 0 YV) (fun k=>[(6,V.int k)]) (fun k=>23 - k) 0 (by omega) ⟨by simp,by simp⟩ (by repeat' first|exact VK|refine Kn (by omega) (by simp only [Ob.lt,ltL,V.lt,and_self,and_true];try omega) ?_) (fun i hi=>by simp only [ovT,YO,Nat.reduceEqDiff,reduceIte];(repeat' first|exact Km|refine VJ ?_ ?_|simp only [V.lt,ltL,and_self,and_true]|omega);exact qA _ _ adQ) (by simp only [Nat.reduceAdd,ovT,YO,Nat.reduceEqDiff,reduceIte,J9,Yz,w7,u32,u33,u34,u35,u36,u37,u38,u39,and_self,and_true,true_and];rfl) fun k hk K' hL=>?_
  obtain ⟨hk,hinv⟩:=hk
  simp only [ovT,YO,Nat.reduceEqDiff,reduceIte]
  rcases hd:YV.drop k with _|⟨r,rs⟩
  · have hk':=YX hd
    have hl:YV.length = 23:=rfl
    rw [hd] at hinv
    repeat' (first|refine Qp fun K' hK=>?_|refine Qt fun K' hK=>?_|refine Qq ?_|refine Qr ?_|refine Qa ?_|((first|refine Qs ⟨_,rfl,fun hc=>?_,fun hc=>?_⟩|refine QM (fun hc=>?_) (fun hc=>?_)|refine QN (fun hc=>?_) (fun hc=>?_))<;>first|(cases hc;done)|((try simp only [znz] at hc);first|exact znf|skip))|refine Qv ?_|refine Qu ?_|simp (maxSteps:=1000000) only [go_sem]|(refine hK _ ?_;clear hK K')|apply And.intro|(apply QX;(focus first|exact EvC.b U4))|exact zlo|omega|exact zms)
    refine Je _ rfl ?_;simp only [go_sem]
    rw [← hinv];rfl
  · obtain ⟨hk',hget,hr⟩:=Yp hd
    have hl:YV.length = 23:=rfl
    rw [hd] at hinv
    have hw:=JO (k:=k) (by omega)
    have hrow:=ai3 k (by omega) hget
    repeat' (first|refine Qp fun K' hK=>?_|refine Qt fun K' hK=>?_|refine Qq ?_|refine Qr ?_|refine Qa ?_|((first|refine Qs ⟨_,rfl,fun hc=>?_,fun hc=>?_⟩|refine QM (fun hc=>?_) (fun hc=>?_)|refine QN (fun hc=>?_) (fun hc=>?_))<;>first|(cases hc;done)|((try simp only [znz] at hc);first|exact znf|skip))|refine Qv ?_|refine Qu ?_|simp (maxSteps:=1000000) only [go_sem,Int.toNat_natCast,hrow,afQ,hw,abB.v]|(refine hK _ ?_;clear hK K')|apply And.intro|(apply QX;(focus first|exact EvC.b U4))|exact zlo|omega|exact zms)
    all_goals first
      | (refine Je _ rfl ?_;simp only [go_sem];rw [← hinv];simp [Vs,hc];omega)
      | (refine hL _ (k + 1) (by simp only [Nat.reduceAdd,ovT,YO,Nat.reduceEqDiff,reduceIte,J9,Yz,w7,u32,u33,u34,u35,u36,u37,u38,u39,and_self,and_true,true_and]) ⟨by omega,?_⟩ (by omega) (fun a ha=>by simp only [u32,u33,u34,u35,u36,u37,u38,u39];repeat rw [if_neg (by omega)]);rw [hr,← hinv,Vs,if_neg (by first|omega|simp [hc])])
def wB:AC:=QF [0,1,4] (.reg [xo 4 (.alloc [.val (.int .i64 0),.val (.int .i64 0)])]) (QF [4] (.reg [mv 5 0,mv 6 1,xo 7 (.build [(.int .i64 0),(.int .i64 0)] [(0,1,(.t 5)),(1,1,(.t 6))]),xs 2 4 7]) (.ret)) def r_catalog_use:List Y9:=[.cell 4 true 2]
def xD (Γ:Env) (f:Nat):Prop:=∀ (a b:Int),EvN Γ f [V.int a,V.int b] (.agg [V.int a,V.int b])
theorem ael {Γ:Env} {f:Nat} (h:Has Γ.P f 8 wB r_catalog_use) :xD Γ f:=by
  intro a b
  refine Jb h (by simp) (by simp only [V.closed,Qw,V.noSl,JL,and_self,and_true,true_and]) (by simp only [V.closed,Qw,V.noSl,JL,and_self,and_true,true_and]) fun C hC hm=>?_
  subst hC
  unfold wB
  repeat' (first|refine Qp fun K' hK=>?_|refine Qt fun K' hK=>?_|refine Qq ?_|refine Qr ?_|refine Qa ?_|((first|refine Qs ⟨_,rfl,fun hc=>?_,fun hc=>?_⟩|refine QM (fun hc=>?_) (fun hc=>?_)|refine QN (fun hc=>?_) (fun hc=>?_))<;>first|(cases hc;done)|((try simp only [znz] at hc);first|exact znf|skip))|refine Qv ?_|refine Qu ?_|simp (maxSteps:=1000000) only [go_sem]|(refine hK _ ?_;clear hK K')|apply And.intro|exact zlo|omega|exact zms)
  refine Je _ rfl ?_;simp only [go_sem]
end Av
end
section
namespace Av
open Go
structure EvD (Γ:Env) (f:FuncId) (args:List V) (cs:List V) (res:V) (cs2:List V):Prop where
  ev:Ev Γ f (.ptr 0 0 :: args) [.box true cs] res [.box true cs2]
  cl:res.closed
  c1:Qw cs
  c2:Qw cs2
def YJ:List V→List Nat
  | []=>[]
  | .hd a _ _ :: r=>a :: YJ r
  | .ptr a _ :: r=>a :: YJ r
  | _ :: r=>YJ r
mutual
theorem ag8 (o:Nat→Option Ob) (br l:List Nat) (hb:∀ x∈l,x ∉ br):∀ v:V,v.shutOk0 o (some l)→conv o br (some l) v (v.shut0 o)
  | .top,_=>by simp [V.shut0,conv]
  | .sc _,_=>by simp [V.shut0,conv]
  | .nn,_=>by simp [V.shut0,conv]
  | .sl _ _,_=>by simp [V.shut0,conv]
  | .ro _ _,_=>by simp [V.shut0,conv]
  | .ept _ _ _,_=>by simp [V.shut0,conv]
  | .mp _,_=>by simp [V.shut0,conv]
  | .hd a off len,h=>by
    obtain ⟨h1,wr,s,xs,h2⟩:=h
    simp only [V.shut0,h2,conv]
    exact ⟨h1,hb a h1,.inl ⟨wr,xs,rfl,rfl⟩⟩
  | .ptr a off,h=>by
    obtain ⟨h1,wr,cs,h2,h3⟩:=h
    simp only [V.shut0,h2,conv]
    exact ⟨h1,hb a h1,trivial,h3,wr,cs,rfl,Yd _ _ _ _ h3⟩
  | .agg cs,h=>by simp only [V.shut0,conv];exact jj o br l hb cs h
  | .tup cs,h=>by simp only [V.shut0,conv];exact jj o br l hb cs h
  | .clo f cs,h=>by simp only [V.shut0,conv];exact ⟨trivial,jj o br l hb cs h⟩
theorem jj (o:Nat→Option Ob) (br l:List Nat) (hb:∀ x∈l,x ∉ br):∀ cs:List V,yE o (some l) cs→YA o br (some l) cs (wP o cs)
  | [],_=>trivial
  | v :: r,h=>⟨ag8 o br l hb v h.1,jj o br l hb r h.2⟩
end
mutual
theorem aiu (o:Nat→Option Ob) (br l:List Nat) (hb:∀ x∈l,x ∉ br):∀ v:V,v.shutOk o (some l)→conv o br (some l) v (v.shut o)
  | .top,_=>by simp [V.shut,conv]
  | .sc _,_=>by simp [V.shut,conv]
  | .nn,_=>by simp [V.shut,conv]
  | .sl _ _,_=>by simp [V.shut,conv]
  | .ro _ _,_=>by simp [V.shut,conv]
  | .ept _ _ _,_=>by simp [V.shut,conv]
  | .mp _,_=>by simp [V.shut,conv]
  | .hd a off len,h=>by
    obtain ⟨h1,h2⟩:=h
    unfold alW at h2
    split at h2
    · rename_i wr s xs h3
      simp only [V.shut,h3,conv]
      exact ⟨h1,hb a h1,.inl ⟨wr,xs,rfl,rfl⟩⟩
    · rename_i wr s xs h3
      simp only [V.shut,h3,conv]
      exact ⟨h1,hb a h1,.inr ⟨wr,xs,rfl,jj _ _ _ hb _ h2.1,h2.2,UI _ _⟩⟩
    · exact h2.elim
  | .ptr a off,h=>by
    obtain ⟨h1,wr,cs,h2,h3⟩:=h
    simp only [V.shut,h2,conv]
    exact ⟨h1,hb a h1,trivial,h3,wr,cs,rfl,Yd _ _ _ _ h3⟩
  | .agg cs,h=>by simp only [V.shut,conv];exact Wx o br l hb cs h
  | .tup cs,h=>by simp only [V.shut,conv];exact Wx o br l hb cs h
  | .clo f cs,h=>by simp only [V.shut,conv];exact ⟨trivial,Wx o br l hb cs h⟩
theorem Wx (o:Nat→Option Ob) (br l:List Nat) (hb:∀ x∈l,x ∉ br):∀ cs:List V,JN o (some l) cs→YA o br (some l) cs (X9 o cs)
  | [],_=>trivial
  | v :: r,h=>⟨aiu o br l hb v h.1,Wx o br l hb r h.2⟩
end
section
variable {Γ:Env} {b:Nat} {r:List AO} {s:St} {d:Option Nat} {f:FuncId} {acts:List V} {res:V} {K:St→Prop} {cs cs2:List V} {a:Nat}
theorem amZ (l:List Nat) (ha:s.o a = some (.box true cs)) (h:EvD Γ f (X9 s.o acts) cs res cs2) (hc:JN s.o (some l) acts) (hal:a ∉ l) (hab:a < b)
    (hk:V7 Γ (b + KK) r { t:=(s.put d res).t,o:=upd (vp (some l) [a] s.o) a (some (.box true cs2)),n:=s.n } K):awC Γ b r s d f (.ptr a 0 :: acts) K:=by
  refine V4 ⟨_,_,_,_,[a],some l,h.ev,⟨?_,Wx s.o [a] l ?_ acts hc⟩,⟨⟨_,ha,Yd _ _ _ _ h.c1⟩,trivial⟩,by simp,by simpa using hab,Nat.le_refl _,by simp [KK],fun h=>by simp at h,?_⟩
  · simp [conv]
  · intro x hx hxa
    simp only [List.mem_singleton] at hxa
    subst hxa;exact hal hx
  · rw [Qo _ _ h.cl]
    simp only [VY,Ud,Ob.ren,Ql _ _ h.c2]
    exact hk
theorem amp (ha:s.o a = some (.box true cs)) (h:EvD Γ f (X9 s.o acts) cs res cs2) (hc:JN s.o (some (YJ acts)) acts) (hal:a ∉ YJ acts) (hab:a < b)
    (hk:V7 Γ (b + KK) r { t:=(s.put d res).t,o:=upd (vp (some (YJ acts)) [a] s.o) a (some (.box true cs2)),n:=s.n } K):awC Γ b r s d f (.ptr a 0 :: acts) K:=amZ _ ha h hc hal hab hk
theorem jk {x:V} {args:List V} {okf:Option (List Nat)→Prop} (ha:s.o a = some (.box true cs)) (h:EvD Γ f args cs res cs2) (hal:(YJ acts).contains a = false) (hab:decide (a < b) = true) (hc:JN s.o (some (YJ acts)) acts)
    (hk:V7 Γ (b + KK) r { t:=(s.put d res).t,o:=upd (vp (some (YJ acts)) [a] s.o) a (some (.box true cs2)),n:=s.n } K):ajW Γ b r s d f (.ptr a 0 :: acts) (x :: args) okf K:=by
  intro h1 _
  simp only [X9,List.cons.injEq] at h1
  obtain ⟨_,rfl⟩:=h1
  exact amp ha h hc (by simpa using hal) (of_decide_eq_true hab) hk
theorem amD {br:List Nat} {o:Nat→Option Ob}:vp (some []) br o = o:=by
  funext n;simp [vp]
theorem am8 {x a n:Nat} {o:Nat→Option Ob}:vp (some [x]) [a] o n = if n = x then (if x = a then o n else (o n).map Ob.frz) else o n:=by
  simp only [vp,List.mem_singleton]
  by_cases h1:n = x
  · subst h1
    by_cases h2:n = a<;>simp [h2]
  · simp [h1]
end
theorem wm {Γ:Env} {f:FuncId} {nt:Nat} {ac:AC} {rs:List Y9} (hb:Has Γ.P f nt ac rs) {args cs cs2:List V} {res:V} (ha:args.length + 1≤nt) (hr:res.closed) (h1:Qw cs) (h2:Qw cs2)
    (h:∀ C:Ctx,C.env = Γ→C.m = 1→AWp C nt ac (VO (.ptr 0 0 :: args) [.box true cs]) (aan 1 rs res [.box true cs2]) (fun _ _=>False) (aan 1 rs res [.box true cs2])):EvD Γ f args cs res cs2 :=
  ⟨V6 hb (by simpa using ha) h,hr,h1,h2⟩
theorem qo {rs:List Y9} {res:V} {s:St} {cs2:List V} (vs:List V) (h:acG s rs = some vs) (ho:s.o 0 = some (.box true cs2)) (h2:Qw cs2) (hc:conv s.o [0] none (ahC vs) res):aan 1 rs res [.box true cs2] s :=
  jN rs vs _ h ⟨[0],none,hc,⟨⟨_,ho,fun h=>h,Yd _ _ _ _ h2⟩,trivial⟩,by simp,rfl⟩
structure EvR (Γ:Env) (f:FuncId) (args:List V) (cs:List V):Prop where
  ev:Ev Γ f args [] (.ptr 0 0) [.box true cs]
  c1:Qw cs
theorem amW {Γ:Env} {b:Nat} {r:List AO} {s:St} {d:Option Nat} {f:FuncId} {acts cs:List V} {K:St→Prop} (h:EvR Γ f (X9 s.o acts) cs) (hc:JN s.o (some (YJ acts)) acts)
    (hk:V7 Γ (b + KK) r { t:=(s.put d (.ptr b 0)).t,o:=upd (vp (some (YJ acts)) [] s.o) b (some (.box true cs)),n:=s.n } K):awC Γ b r s d f acts K:=by
  refine V4 ⟨_,_,_,_,[],some (YJ acts),h.ev,Wr _ _ _ hc,trivial,List.nodup_nil,fun x hx=>by simp at hx,by simp,by simp [KK],fun h=>by simp at h,?_⟩
  simp only [VY,Ud,Ob.ren,Ql _ _ h.c1,V.ren,sig]
  exact hk
theorem yh {Γ:Env} {b:Nat} {r:List AO} {s:St} {d:Option Nat} {f:FuncId} {acts args cs:List V} {K:St→Prop} {okf:Option (List Nat)→Prop} (h:EvR Γ f args cs) (hc:okf (some (YJ acts)))
    (hk:V7 Γ (b + KK) r { t:=(s.put d (.ptr b 0)).t,o:=upd (vp (some (YJ acts)) [] s.o) b (some (.box true cs)),n:=s.n } K):ajW Γ b r s d f acts args okf K:=by
  rintro rfl rfl;exact amW h hc hk
theorem adK {Γ:Env} {f:FuncId} {nt:Nat} {ac:AC} {rs:List Y9} (hb:Has Γ.P f nt ac rs) {args cs:List V} (ha:args.length≤nt) (h1:Qw cs)
    (h:∀ C:Ctx,C.env = Γ→C.m = 0→AWp C nt ac (VO args []) (aan 0 rs (.ptr 0 0) [.box true cs]) (fun _ _=>False) (aan 0 rs (.ptr 0 0) [.box true cs])):EvR Γ f args cs :=
  ⟨V6 hb ha h,h1⟩
theorem ak4 {rs:List Y9} {s:St} {cs:List V} (a:Nat) (h:acG s rs = some [.ptr a 0]) (ho:s.o a = some (.box true cs)) (h2:Qw cs):aan 0 rs (.ptr 0 0) [.box true cs] s :=
  jN rs _ _ h ⟨[a],none,by simp [ahC,conv],⟨⟨_,ho,fun h=>h,Yd _ _ _ _ h2⟩,trivial⟩,by simp,rfl⟩
attribute [go_sem] amD am8 YJ Ob.frz
end Av
end
section
set_option linter.unusedSimpArgs false
set_option linter.unusedVariables false
set_option maxRecDepth 10000
namespace Av
open Go
attribute [local irreducible] AWp V7 Kz KE awS awC jS awQ jY JB Wl jJ awR Ws awB okR Vo ris
structure Q9 where
  code:Int
  name:List UInt8
  kx1:Int
  kx2:Int
  sg1:Int
  sg2:Int
  ci1:Int
  ci2:Int
  mc1:Int
  mc2:Int
  lo:Int
  hi:Int
  deriving DecidableEq
def Q9.cells (s:Q9):List V:=[V.int s.code,V.str s.name,V.int s.kx1,V.int s.kx2,V.int s.sg1,V.int s.sg2,V.int s.ci1,V.int s.ci2,V.int s.mc1,V.int s.mc2,V.int s.lo,V.int s.hi]
def Q9.v (s:Q9):V:=.agg s.cells
def JD:List Q9:=[⟨1,[114,115,97,45,114,99,52,45,109,100,53],10,0,5,0,14,128,19,0,1,2⟩,⟨2,[114,115,97,45,114,99,52,45,115,104,97],10,0,5,0,14,128,20,0,1,3⟩,⟨3,[114,115,97,45,100,101,115,51,45,115,104,97],10,0,5,0,15,168,20,0,1,3⟩,⟨4,[100,104,101,45,100,115,97,45,100,101,115,51,45,115,104,97],11,1024,6,0,15,168,20,0,1,3⟩,⟨5,[100,104,101,45,114,115,97,45,100,101,115,51,45,115,104,97],11,1024,5,0,15,168,20,0,1,3⟩,⟨6,[114,115,97,45,97,101,115,49,50,56,45,115,104,97],10,0,5,0,16,128,20,0,1,3⟩,⟨7,[100,104,101,45,114,115,97,45,97,101,115,49,50,56,45,115,104,97],11,2048,5,0,16,128,20,0,1,3⟩,⟨8,[101,99,100,104,101,45,114,115,97,45,97,101,115,49,50,56,45,115,104,97],12,256,5,0,16,128,20,0,1,3⟩,⟨9,[101,99,100,104,101,45,101,99,100,115,97,45,97,101,115,50,53,54,45,115,104,97,50,53,54],12,256,7,0,16,256,21,0,3,3⟩,⟨10,[101,99,100,104,101,45,114,115,97,45,97,101,115,49,50,56,45,103,99,109],12,256,5,0,17,128,22,0,3,3⟩,⟨11,[101,99,100,104,101,45,101,99,100,115,97,45,97,101,115,50,53,54,45,103,99,109],12,384,7,0,17,256,22,0,3,3⟩,⟨12,[101,99,100,104,101,45,114,115,97,45,99,104,97,99,104,97],12,256,5,0,18,0,22,0,3,3⟩,⟨13,[114,115,97,45,97,101,115,50,53,54,45,103,99,109],10,0,5,0,17,256,22,0,3,3⟩,⟨14,[97,101,115,49,50,56,45,103,99,109],12,256,0,0,17,128,22,0,4,4⟩,⟨15,[99,104,97,99,104,97],12,256,0,0,18,0,22,0,4,4⟩,⟨16,[109,108,107,101,109,45,97,101,115,50,53,54,45,103,99,109],13,768,0,0,17,256,22,0,4,4⟩]
def ae1 (k:Nat):List V:=(JD.take k).map Q9.v++(JD.drop k).map fun s=>Q9.v { s with code:=0 }
theorem agH (k:Nat) (h:k < 16):∃ cs,(ae1 k)[k]? = some (.agg (V.int 0 :: cs))∧cs.length = 11∧(ae1 k).set k (.agg (V.int ((k + 1:Nat):Int) :: cs)) = ae1 (k + 1):=by
  rcases (by omega:k = 0∨k = 1∨k = 2∨k = 3∨k = 4∨k = 5∨k = 6∨k = 7∨k = 8∨k = 9∨k = 10∨k = 11∨k = 12∨k = 13∨k = 14∨k = 15) with rfl|rfl|rfl|rfl|rfl|rfl|rfl|rfl|rfl|rfl|rfl|rfl|rfl|rfl|rfl|rfl
  all_goals exact ⟨_,rfl,rfl,rfl⟩
def KM (Q8:Nat):List AO:=[xo 31 (.load true 2 (.t 1)),xo 32 (.load true 2 (.t 2)),xo 33 (.call Q8 [(.c (V.int 14)),(.c (V.int 128))]),xo 34 (.load true 2 (.t 11)),xo 35 (.build [(.int .i64 0),(.string ⟨#[]⟩),(.int .i64 0),(.int .i64 0),(.int .i64 0),(.int .i64 0),(.int .i64 0),(.int .i64 0),(.int .i64 0),(.int .i64 0),(.int .i64 0),(.int .i64 0)] [(1,1,(.c (V.str [114,115,97,45,114,99,52,45,109,100,53]))),(2,2,(.t 31)),(4,2,(.t 32)),(6,2,(.t 33)),(8,2,(.t 34)),(10,1,(.c (V.int 1))),(11,1,(.c (V.int 2)))]),xo 36 (.load true 2 (.t 1)),xo 37 (.load true 2 (.t 2)),xo 38 (.call Q8 [(.c (V.int 14)),(.c (V.int 128))]),xo 39 (.load true 2 (.t 12)),xo 40 (.build [(.int .i64 0),(.string ⟨#[]⟩),(.int .i64 0),(.int .i64 0),(.int .i64 0),(.int .i64 0),(.int .i64 0),(.int .i64 0),(.int .i64 0),(.int .i64 0),(.int .i64 0),(.int .i64 0)] [(1,1,(.c (V.str [114,115,97,45,114,99,52,45,115,104,97]))),(2,2,(.t 36)),(4,2,(.t 37)),(6,2,(.t 38)),(8,2,(.t 39)),(10,1,(.c (V.int 1))),(11,1,(.c (V.int 3)))]),xo 41 (.load true 2 (.t 1)),xo 42 (.load true 2 (.t 2)),xo 43 (.load true 2 (.t 6)),xo 44 (.load true 2 (.t 12)),xo 45 (.build [(.int .i64 0),(.string ⟨#[]⟩),(.int .i64 0),(.int .i64 0),(.int .i64 0),(.int .i64 0),(.int .i64 0),(.int .i64 0),(.int .i64 0),(.int .i64 0),(.int .i64 0),(.int .i64 0)] [(1,1,(.c (V.str [114,115,97,45,100,101,115,51,45,115,104,97]))),(2,2,(.t 41)),(4,2,(.t 42)),(6,2,(.t 43)),(8,2,(.t 44)),(10,1,(.c (V.int 1))),(11,1,(.c (V.int 3)))]),xo 46 (.call Q8 [(.c (V.int 11)),(.c (V.int 1024))]),xo 47 (.load true 2 (.t 3)),xo 48 (.load true 2 (.t 6)),xo 49 (.load true 2 (.t 12)),xo 50 (.build [(.int .i64 0),(.string ⟨#[]⟩),(.int .i64 0),(.int .i64 0),(.int .i64 0),(.int .i64 0),(.int .i64 0),(.int .i64 0),(.int .i64 0),(.int .i64 0),(.int .i64 0),(.int .i64 0)] [(1,1,(.c (V.str [100,104,101,45,100,115,97,45,100,101,115,51,45,115,104,97]))),(2,2,(.t 46)),(4,2,(.t 47)),(6,2,(.t 48)),(8,2,(.t 49)),(10,1,(.c (V.int 1))),(11,1,(.c (V.int 3)))]),xo 51 (.call Q8 [(.c (V.int 11)),(.c (V.int 1024))]),xo 52 (.load true 2 (.t 2)),xo 53 (.load true 2 (.t 6)),xo 54 (.load true 2 (.t 12)),xo 55 (.build [(.int .i64 0),(.string ⟨#[]⟩),(.int .i64 0),(.int .i64 0),(.int .i64 0),(.int .i64 0),(.int .i64 0),(.int .i64 0),(.int .i64 0),(.int .i64 0),(.int .i64 0),(.int .i64 0)] [(1,1,(.c (V.str [100,104,101,45,114,115,97,45,100,101,115,51,45,115,104,97]))),(2,2,(.t 51)),(4,2,(.t 52)),(6,2,(.t 53)),(8,2,(.t 54)),(10,1,(.c (V.int 1))),(11,1,(.c (V.int 3)))]),xo 56 (.load true 2 (.t 1)),xo 57 (.load true 2 (.t 2)),xo 58 (.load true 2 (.t 7)),xo 59 (.load true 2 (.t 12)),xo 60 (.build [(.int .i64 0),(.string ⟨#[]⟩),(.int .i64 0),(.int .i64 0),(.int .i64 0),(.int .i64 0),(.int .i64 0),(.int .i64 0),(.int .i64 0),(.int .i64 0),(.int .i64 0),(.int .i64 0)] [(1,1,(.c (V.str [114,115,97,45,97,101,115,49,50,56,45,115,104,97]))),(2,2,(.t 56)),(4,2,(.t 57)),(6,2,(.t 58)),(8,2,(.t 59)),(10,1,(.c (V.int 1))),(11,1,(.c (V.int 3)))]),xo 61 (.call Q8 [(.c (V.int 11)),(.c (V.int 2048))]),xo 62 (.load true 2 (.t 2)),xo 63 (.load true 2 (.t 7)),xo 64 (.load true 2 (.t 12)),xo 65 (.build [(.int .i64 0),(.string ⟨#[]⟩),(.int .i64 0),(.int .i64 0),(.int .i64 0),(.int .i64 0),(.int .i64 0),(.int .i64 0),(.int .i64 0),(.int .i64 0),(.int .i64 0),(.int .i64 0)] [(1,1,(.c (V.str [100,104,101,45,114,115,97,45,97,101,115,49,50,56,45,115,104,97]))),(2,2,(.t 61)),(4,2,(.t 62)),(6,2,(.t 63)),(8,2,(.t 64)),(10,1,(.c (V.int 1))),(11,1,(.c (V.int 3)))]),xo 66 (.load true 2 (.t 14)),xo 67 (.load true 2 (.t 2)),xo 68 (.load true 2 (.t 7)),xo 69 (.load true 2 (.t 12)),xo 70 (.build [(.int .i64 0),(.string ⟨#[]⟩),(.int .i64 0),(.int .i64 0),(.int .i64 0),(.int .i64 0),(.int .i64 0),(.int .i64 0),(.int .i64 0),(.int .i64 0),(.int .i64 0),(.int .i64 0)] [(1,1,(.c (V.str [101,99,100,104,101,45,114,115,97,45,97,101,115,49,50,56,45,115,104,97]))),(2,2,(.t 66)),(4,2,(.t 67)),(6,2,(.t 68)),(8,2,(.t 69)),(10,1,(.c (V.int 1))),(11,1,(.c (V.int 3)))]),xo 71 (.load true 2 (.t 14)),xo 72 (.load true 2 (.t 4)),xo 73 (.call Q8 [(.c (V.int 16)),(.c (V.int 256))]),xo 74 (.call Q8 [(.c (V.int 21)),(.c (V.int 0))]),xo 75 (.build [(.int .i64 0),(.string ⟨#[]⟩),(.int .i64 0),(.int .i64 0),(.int .i64 0),(.int .i64 0),(.int .i64 0),(.int .i64 0),(.int .i64 0),(.int .i64 0),(.int .i64 0),(.int .i64 0)] [(1,1,(.c (V.str [101,99,100,104,101,45,101,99,100,115,97,45,97,101,115,50,53,54,45,115,104,97,50,53,54]))),(2,2,(.t 71)),(4,2,(.t 72)),(6,2,(.t 73)),(8,2,(.t 74)),(10,1,(.c (V.int 3))),(11,1,(.c (V.int 3)))]),xo 76 (.load true 2 (.t 14)),xo 77 (.load true 2 (.t 2)),xo 78 (.load true 2 (.t 8)),xo 79 (.load true 2 (.t 13)),xo 80 (.build [(.int .i64 0),(.string ⟨#[]⟩),(.int .i64 0),(.int .i64 0),(.int .i64 0),(.int .i64 0),(.int .i64 0),(.int .i64 0),(.int .i64 0),(.int .i64 0),(.int .i64 0),(.int .i64 0)] [(1,1,(.c (V.str [101,99,100,104,101,45,114,115,97,45,97,101,115,49,50,56,45,103,99,109]))),(2,2,(.t 76)),(4,2,(.t 77)),(6,2,(.t 78)),(8,2,(.t 79)),(10,1,(.c (V.int 3))),(11,1,(.c (V.int 3)))]),xo 81 (.call Q8 [(.c (V.int 12)),(.c (V.int 384))]),xo 82 (.load true 2 (.t 4)),xo 83 (.load true 2 (.t 9)),xo 84 (.load true 2 (.t 13)),xo 85 (.build [(.int .i64 0),(.string ⟨#[]⟩),(.int .i64 0),(.int .i64 0),(.int .i64 0),(.int .i64 0),(.int .i64 0),(.int .i64 0),(.int .i64 0),(.int .i64 0),(.int .i64 0),(.int .i64 0)] [(1,1,(.c (V.str [101,99,100,104,101,45,101,99,100,115,97,45,97,101,115,50,53,54,45,103,99,109]))),(2,2,(.t 81)),(4,2,(.t 82)),(6,2,(.t 83)),(8,2,(.t 84)),(10,1,(.c (V.int 3))),(11,1,(.c (V.int 3)))]),xo 86 (.load true 2 (.t 14)),xo 87 (.load true 2 (.t 2)),xo 88 (.load true 2 (.t 10)),xo 89 (.load true 2 (.t 13)),xo 90 (.build [(.int .i64 0),(.string ⟨#[]⟩),(.int .i64 0),(.int .i64 0),(.int .i64 0),(.int .i64 0),(.int .i64 0),(.int .i64 0),(.int .i64 0),(.int .i64 0),(.int .i64 0),(.int .i64 0)] [(1,1,(.c (V.str [101,99,100,104,101,45,114,115,97,45,99,104,97,99,104,97]))),(2,2,(.t 86)),(4,2,(.t 87)),(6,2,(.t 88)),(8,2,(.t 89)),(10,1,(.c (V.int 3))),(11,1,(.c (V.int 3)))]),xo 91 (.load true 2 (.t 1)),xo 92 (.load true 2 (.t 2)),xo 93 (.load true 2 (.t 9)),xo 94 (.load true 2 (.t 13)),xo 95 (.build [(.int .i64 0),(.string ⟨#[]⟩),(.int .i64 0),(.int .i64 0),(.int .i64 0),(.int .i64 0),(.int .i64 0),(.int .i64 0),(.int .i64 0),(.int .i64 0),(.int .i64 0),(.int .i64 0)] [(1,1,(.c (V.str [114,115,97,45,97,101,115,50,53,54,45,103,99,109]))),(2,2,(.t 91)),(4,2,(.t 92)),(6,2,(.t 93)),(8,2,(.t 94)),(10,1,(.c (V.int 3))),(11,1,(.c (V.int 3)))]),xo 96 (.load true 2 (.t 14)),xo 97 (.load true 2 (.t 5)),xo 98 (.load true 2 (.t 8)),xo 99 (.load true 2 (.t 13)),xo 100 (.build [(.int .i64 0),(.string ⟨#[]⟩),(.int .i64 0),(.int .i64 0),(.int .i64 0),(.int .i64 0),(.int .i64 0),(.int .i64 0),(.int .i64 0),(.int .i64 0),(.int .i64 0),(.int .i64 0)] [(1,1,(.c (V.str [97,101,115,49,50,56,45,103,99,109]))),(2,2,(.t 96)),(4,2,(.t 97)),(6,2,(.t 98)),(8,2,(.t 99)),(10,1,(.c (V.int 4))),(11,1,(.c (V.int 4)))]),xo 101 (.load true 2 (.t 14)),xo 102 (.load true 2 (.t 5)),xo 103 (.load true 2 (.t 10)),xo 104 (.load true 2 (.t 13)),xo 105 (.build [(.int .i64 0),(.string ⟨#[]⟩),(.int .i64 0),(.int .i64 0),(.int .i64 0),(.int .i64 0),(.int .i64 0),(.int .i64 0),(.int .i64 0),(.int .i64 0),(.int .i64 0),(.int .i64 0)] [(1,1,(.c (V.str [99,104,97,99,104,97]))),(2,2,(.t 101)),(4,2,(.t 102)),(6,2,(.t 103)),(8,2,(.t 104)),(10,1,(.c (V.int 4))),(11,1,(.c (V.int 4)))]),xo 106 (.call Q8 [(.c (V.int 13)),(.c (V.int 768))]),xo 107 (.load true 2 (.t 5)),xo 108 (.load true 2 (.t 9)),xo 109 (.load true 2 (.t 13)),xo 110 (.build [(.int .i64 0),(.string ⟨#[]⟩),(.int .i64 0),(.int .i64 0),(.int .i64 0),(.int .i64 0),(.int .i64 0),(.int .i64 0),(.int .i64 0),(.int .i64 0),(.int .i64 0),(.int .i64 0)] [(1,1,(.c (V.str [109,108,107,101,109,45,97,101,115,50,53,54,45,103,99,109]))),(2,2,(.t 106)),(4,2,(.t 107)),(6,2,(.t 108)),(8,2,(.t 109)),(10,1,(.c (V.int 4))),(11,1,(.c (V.int 4)))]),xo 111 (.bslice 16 12 true [(.int .i64 0),(.string ⟨#[]⟩),(.int .i64 0),(.int .i64 0),(.int .i64 0),(.int .i64 0),(.int .i64 0),(.int .i64 0),(.int .i64 0),(.int .i64 0),(.int .i64 0),(.int .i64 0)] [(0,(.t 35)),(1,(.t 40)),(2,(.t 45)),(3,(.t 50)),(4,(.t 55)),(5,(.t 60)),(6,(.t 65)),(7,(.t 70)),(8,(.t 75)),(9,(.t 80)),(10,(.t 85)),(11,(.t 90)),(12,(.t 95)),(13,(.t 100)),(14,(.t 105)),(15,(.t 110))]),mv 15 111]
def K8:List (List Nat):=[[],[],[],[],[0,1,2,3],[],[],[2],[],[5,6,7,8],[],[],[],[],[10,11,12,13],[7],[],[],[],[15,16,17,18],[15],[],[],[],[20,21,22,23],[],[],[],[],[25,26,27,28],[20],[],[],[],[30,31,32,33],[],[],[],[],[35,36,37,38],[],[],[30],[42],[40,41,42,43],[],[],[],[],[45,46,47,48],[43],[],[],[],[50,51,52,53],[],[],[],[],[55,56,57,58],[],[],[],[],[60,61,62,63],[],[],[],[],[65,66,67,68],[],[],[],[],[70,71,72,73],[50],[],[],[],[75,76,77,78],[4,9,14,19,24,29,34,39,44,49,54,59,64,69,74,79],[80,75,0,1,2,3,4,5,6,7,8,9,10,11,12,13,14,15,16,17,18,19,20,21,22,23,24,25,26,27,28,29,30,31,32,33,34,35,36,37,38,39,40,41,42,43,44,45,46,47,48,49,50,51,52,53,54,55,56,57,58,59,60,61,62,63,64,65,66,67,68,69,70,71,72,73,74,75,76,77,78,79,80]]
def KH:OT:=.one 0 (.one 1 (.one 3 (.one 5 (.one 6 (.one 8 (.one 10 (.one 11 (.one 12 (.one 13 (.one 14 (.one 16 (.one 17 (.one 18 (.one 21 (.one 22 (.one 23 (.one 25 (.one 26 (.one 27 (.one 28 (.one 29 (.one 31 (.one 32 (.one 33 (.one 35 (.one 36 (.one 37 (.one 38 (.one 39 (.one 40 (.one 41 (.one 45 (.one 46 (.one 47 (.one 48 (.one 49 (.one 51 (.one 52 (.one 53 (.one 55 (.one 56 (.one 57 (.one 58 (.one 59 (.one 60 (.one 61 (.one 62 (.one 63 (.one 64 (.one 65 (.one 66 (.one 67 (.one 68 (.one 69 (.one 70 (.one 71 (.one 72 (.one 73 (.one 74 (.one 76 (.one 77 (.one 78 (.or 2 (.one 4 (.or 7 (.one 9 (.or 15 (.one 19 (.or 20 (.one 24 (.or 30 (.one 34 (.or 42 (.or 43 (.one 44 (.or 50 (.one 54 (.or 75 (.one 79 (.one 80 (.one 81 (.done)))) (.done))) (.done))) (.done)) (.done))) (.done))) (.done))) (.done))) (.done))) (.done))))))))))))))))))))))))))))))))))))))))))))))))))))))))))))))))
def WO (Q8:Nat):OP:=.one 0 false [] (xo 31 (.load true 2 (.t 1))) (.one 1 false [] (xo 32 (.load true 2 (.t 2))) (.one 3 false [] (xo 34 (.load true 2 (.t 11))) (.one 5 false [] (xo 36 (.load true 2 (.t 1))) (.one 6 false [] (xo 37 (.load true 2 (.t 2))) (.one 8 false [] (xo 39 (.load true 2 (.t 12))) (.one 10 false [] (xo 41 (.load true 2 (.t 1))) (.one 11 false [] (xo 42 (.load true 2 (.t 2))) (.one 12 false [] (xo 43 (.load true 2 (.t 6))) (.one 13 false [] (xo 44 (.load true 2 (.t 12))) (.one 14 false [] (xo 45 (.build [(.int .i64 0),(.string ⟨#[]⟩),(.int .i64 0),(.int .i64 0),(.int .i64 0),(.int .i64 0),(.int .i64 0),(.int .i64 0),(.int .i64 0),(.int .i64 0),(.int .i64 0),(.int .i64 0)] [(1,1,(.c (V.str [114,115,97,45,100,101,115,51,45,115,104,97]))),(2,2,(.t 41)),(4,2,(.t 42)),(6,2,(.t 43)),(8,2,(.t 44)),(10,1,(.c (V.int 1))),(11,1,(.c (V.int 3)))])) (.one 16 false [] (xo 47 (.load true 2 (.t 3))) (.one 17 false [] (xo 48 (.load true 2 (.t 6))) (.one 18 false [] (xo 49 (.load true 2 (.t 12))) (.one 21 false [] (xo 52 (.load true 2 (.t 2))) (.one 22 false [] (xo 53 (.load true 2 (.t 6))) (.one 23 false [] (xo 54 (.load true 2 (.t 12))) (.one 25 false [] (xo 56 (.load true 2 (.t 1))) (.one 26 false [] (xo 57 (.load true 2 (.t 2))) (.one 27 false [] (xo 58 (.load true 2 (.t 7))) (.one 28 false [] (xo 59 (.load true 2 (.t 12))) (.one 29 false [] (xo 60 (.build [(.int .i64 0),(.string ⟨#[]⟩),(.int .i64 0),(.int .i64 0),(.int .i64 0),(.int .i64 0),(.int .i64 0),(.int .i64 0),(.int .i64 0),(.int .i64 0),(.int .i64 0),(.int .i64 0)] [(1,1,(.c (V.str [114,115,97,45,97,101,115,49,50,56,45,115,104,97]))),(2,2,(.t 56)),(4,2,(.t 57)),(6,2,(.t 58)),(8,2,(.t 59)),(10,1,(.c (V.int 1))),(11,1,(.c (V.int 3)))])) (.one 31 false [] (xo 62 (.load true 2 (.t 2))) (.one 32 false [] (xo 63 (.load true 2 (.t 7))) (.one 33 false [] (xo 64 (.load true 2 (.t 12))) (.one 35 false [] (xo 66 (.load true 2 (.t 14))) (.one 36 false [] (xo 67 (.load true 2 (.t 2))) (.one 37 false [] (xo 68 (.load true 2 (.t 7))) (.one 38 false [] (xo 69 (.load true 2 (.t 12))) (.one 39 false [] (xo 70 (.build [(.int .i64 0),(.string ⟨#[]⟩),(.int .i64 0),(.int .i64 0),(.int .i64 0),(.int .i64 0),(.int .i64 0),(.int .i64 0),(.int .i64 0),(.int .i64 0),(.int .i64 0),(.int .i64 0)] [(1,1,(.c (V.str [101,99,100,104,101,45,114,115,97,45,97,101,115,49,50,56,45,115,104,97]))),(2,2,(.t 66)),(4,2,(.t 67)),(6,2,(.t 68)),(8,2,(.t 69)),(10,1,(.c (V.int 1))),(11,1,(.c (V.int 3)))])) (.one 40 false [] (xo 71 (.load true 2 (.t 14))) (.one 41 false [] (xo 72 (.load true 2 (.t 4))) (.one 45 false [] (xo 76 (.load true 2 (.t 14))) (.one 46 false [] (xo 77 (.load true 2 (.t 2))) (.one 47 false [] (xo 78 (.load true 2 (.t 8))) (.one 48 false [] (xo 79 (.load true 2 (.t 13))) (.one 49 false [] (xo 80 (.build [(.int .i64 0),(.string ⟨#[]⟩),(.int .i64 0),(.int .i64 0),(.int .i64 0),(.int .i64 0),(.int .i64 0),(.int .i64 0),(.int .i64 0),(.int .i64 0),(.int .i64 0),(.int .i64 0)] [(1,1,(.c (V.str [101,99,100,104,101,45,114,115,97,45,97,101,115,49,50,56,45,103,99,109]))),(2,2,(.t 76)),(4,2,(.t 77)),(6,2,(.t 78)),(8,2,(.t 79)),(10,1,(.c (V.int 3))),(11,1,(.c (V.int 3)))])) (.one 51 false [] (xo 82 (.load true 2 (.t 4))) (.one 52 false [] (xo 83 (.load true 2 (.t 9))) (.one 53 false [] (xo 84 (.load true 2 (.t 13))) (.one 55 false [] (xo 86 (.load true 2 (.t 14))) (.one 56 false [] (xo 87 (.load true 2 (.t 2))) (.one 57 false [] (xo 88 (.load true 2 (.t 10))) (.one 58 false [] (xo 89 (.load true 2 (.t 13))) (.one 59 false [] (xo 90 (.build [(.int .i64 0),(.string ⟨#[]⟩),(.int .i64 0),(.int .i64 0),(.int .i64 0),(.int .i64 0),(.int .i64 0),(.int .i64 0),(.int .i64 0),(.int .i64 0),(.int .i64 0),(.int .i64 0)] [(1,1,(.c (V.str [101,99,100,104,101,45,114,115,97,45,99,104,97,99,104,97]))),(2,2,(.t 86)),(4,2,(.t 87)),(6,2,(.t 88)),(8,2,(.t 89)),(10,1,(.c (V.int 3))),(11,1,(.c (V.int 3)))])) (.one 60 false [] (xo 91 (.load true 2 (.t 1))) (.one 61 false [] (xo 92 (.load true 2 (.t 2))) (.one 62 false [] (xo 93 (.load true 2 (.t 9))) (.one 63 false [] (xo 94 (.load true 2 (.t 13))) (.one 64 false [] (xo 95 (.build [(.int .i64 0),(.string ⟨#[]⟩),(.int .i64 0),(.int .i64 0),(.int .i64 0),(.int .i64 0),(.int .i64 0),(.int .i64 0),(.int .i64 0),(.int .i64 0),(.int .i64 0),(.int .i64 0)] [(1,1,(.c (V.str [114,115,97,45,97,101,115,50,53,54,45,103,99,109]))),(2,2,(.t 91)),(4,2,(.t 92)),(6,2,(.t 93)),(8,2,(.t 94)),(10,1,(.c (V.int 3))),(11,1,(.c (V.int 3)))])) (.one 65 false [] (xo 96 (.load true 2 (.t 14))) (.one 66 false [] (xo 97 (.load true 2 (.t 5))) (.one 67 false [] (xo 98 (.load true 2 (.t 8))) (.one 68 false [] (xo 99 (.load true 2 (.t 13))) (.one 69 false [] (xo 100 (.build [(.int .i64 0),(.string ⟨#[]⟩),(.int .i64 0),(.int .i64 0),(.int .i64 0),(.int .i64 0),(.int .i64 0),(.int .i64 0),(.int .i64 0),(.int .i64 0),(.int .i64 0),(.int .i64 0)] [(1,1,(.c (V.str [97,101,115,49,50,56,45,103,99,109]))),(2,2,(.t 96)),(4,2,(.t 97)),(6,2,(.t 98)),(8,2,(.t 99)),(10,1,(.c (V.int 4))),(11,1,(.c (V.int 4)))])) (.one 70 false [] (xo 101 (.load true 2 (.t 14))) (.one 71 false [] (xo 102 (.load true 2 (.t 5))) (.one 72 false [] (xo 103 (.load true 2 (.t 10))) (.one 73 false [] (xo 104 (.load true 2 (.t 13))) (.one 74 false [] (xo 105 (.build [(.int .i64 0),(.string ⟨#[]⟩),(.int .i64 0),(.int .i64 0),(.int .i64 0),(.int .i64 0),(.int .i64 0),(.int .i64 0),(.int .i64 0),(.int .i64 0),(.int .i64 0),(.int .i64 0)] [(1,1,(.c (V.str [99,104,97,99,104,97]))),(2,2,(.t 101)),(4,2,(.t 102)),(6,2,(.t 103)),(8,2,(.t 104)),(10,1,(.c (V.int 4))),(11,1,(.c (V.int 4)))])) (.one 76 false [] (xo 107 (.load true 2 (.t 5))) (.one 77 false [] (xo 108 (.load true 2 (.t 9))) (.one 78 false [] (xo 109 (.load true 2 (.t 13))) (.or 2 false [] (xo 33 (.call Q8 [(.c (V.int 14)),(.c (V.int 128))])) (.one 4 false [2] (xo 35 (.build [(.int .i64 0),(.string ⟨#[]⟩),(.int .i64 0),(.int .i64 0),(.int .i64 0),(.int .i64 0),(.int .i64 0),(.int .i64 0),(.int .i64 0),(.int .i64 0),(.int .i64 0),(.int .i64 0)] [(1,1,(.c (V.str [114,115,97,45,114,99,52,45,109,100,53]))),(2,2,(.t 31)),(4,2,(.t 32)),(6,2,(.t 33)),(8,2,(.t 34)),(10,1,(.c (V.int 1))),(11,1,(.c (V.int 2)))])) (.or 7 false [] (xo 38 (.call Q8 [(.c (V.int 14)),(.c (V.int 128))])) (.one 9 false [7] (xo 40 (.build [(.int .i64 0),(.string ⟨#[]⟩),(.int .i64 0),(.int .i64 0),(.int .i64 0),(.int .i64 0),(.int .i64 0),(.int .i64 0),(.int .i64 0),(.int .i64 0),(.int .i64 0),(.int .i64 0)] [(1,1,(.c (V.str [114,115,97,45,114,99,52,45,115,104,97]))),(2,2,(.t 36)),(4,2,(.t 37)),(6,2,(.t 38)),(8,2,(.t 39)),(10,1,(.c (V.int 1))),(11,1,(.c (V.int 3)))])) (.or 15 false [] (xo 46 (.call Q8 [(.c (V.int 11)),(.c (V.int 1024))])) (.one 19 false [15] (xo 50 (.build [(.int .i64 0),(.string ⟨#[]⟩),(.int .i64 0),(.int .i64 0),(.int .i64 0),(.int .i64 0),(.int .i64 0),(.int .i64 0),(.int .i64 0),(.int .i64 0),(.int .i64 0),(.int .i64 0)] [(1,1,(.c (V.str [100,104,101,45,100,115,97,45,100,101,115,51,45,115,104,97]))),(2,2,(.t 46)),(4,2,(.t 47)),(6,2,(.t 48)),(8,2,(.t 49)),(10,1,(.c (V.int 1))),(11,1,(.c (V.int 3)))])) (.or 20 false [] (xo 51 (.call Q8 [(.c (V.int 11)),(.c (V.int 1024))])) (.one 24 false [20] (xo 55 (.build [(.int .i64 0),(.string ⟨#[]⟩),(.int .i64 0),(.int .i64 0),(.int .i64 0),(.int .i64 0),(.int .i64 0),(.int .i64 0),(.int .i64 0),(.int .i64 0),(.int .i64 0),(.int .i64 0)] [(1,1,(.c (V.str [100,104,101,45,114,115,97,45,100,101,115,51,45,115,104,97]))),(2,2,(.t 51)),(4,2,(.t 52)),(6,2,(.t 53)),(8,2,(.t 54)),(10,1,(.c (V.int 1))),(11,1,(.c (V.int 3)))])) (.or 30 false [] (xo 61 (.call Q8 [(.c (V.int 11)),(.c (V.int 2048))])) (.one 34 false [30] (xo 65 (.build [(.int .i64 0),(.string ⟨#[]⟩),(.int .i64 0),(.int .i64 0),(.int .i64 0),(.int .i64 0),(.int .i64 0),(.int .i64 0),(.int .i64 0),(.int .i64 0),(.int .i64 0),(.int .i64 0)] [(1,1,(.c (V.str [100,104,101,45,114,115,97,45,97,101,115,49,50,56,45,115,104,97]))),(2,2,(.t 61)),(4,2,(.t 62)),(6,2,(.t 63)),(8,2,(.t 64)),(10,1,(.c (V.int 1))),(11,1,(.c (V.int 3)))])) (.or 42 false [] (xo 73 (.call Q8 [(.c (V.int 16)),(.c (V.int 256))])) (.or 43 false [] (xo 74 (.call Q8 [(.c (V.int 21)),(.c (V.int 0))])) (.one 44 false [43,42] (xo 75 (.build [(.int .i64 0),(.string ⟨#[]⟩),(.int .i64 0),(.int .i64 0),(.int .i64 0),(.int .i64 0),(.int .i64 0),(.int .i64 0),(.int .i64 0),(.int .i64 0),(.int .i64 0),(.int .i64 0)] [(1,1,(.c (V.str [101,99,100,104,101,45,101,99,100,115,97,45,97,101,115,50,53,54,45,115,104,97,50,53,54]))),(2,2,(.t 71)),(4,2,(.t 72)),(6,2,(.t 73)),(8,2,(.t 74)),(10,1,(.c (V.int 3))),(11,1,(.c (V.int 3)))])) (.or 50 false [] (xo 81 (.call Q8 [(.c (V.int 12)),(.c (V.int 384))])) (.one 54 false [50] (xo 85 (.build [(.int .i64 0),(.string ⟨#[]⟩),(.int .i64 0),(.int .i64 0),(.int .i64 0),(.int .i64 0),(.int .i64 0),(.int .i64 0),(.int .i64 0),(.int .i64 0),(.int .i64 0),(.int .i64 0)] [(1,1,(.c (V.str [101,99,100,104,101,45,101,99,100,115,97,45,97,101,115,50,53,54,45,103,99,109]))),(2,2,(.t 81)),(4,2,(.t 82)),(6,2,(.t 83)),(8,2,(.t 84)),(10,1,(.c (V.int 3))),(11,1,(.c (V.int 3)))])) (.or 75 false [] (xo 106 (.call Q8 [(.c (V.int 13)),(.c (V.int 768))])) (.one 79 false [75] (xo 110 (.build [(.int .i64 0),(.string ⟨#[]⟩),(.int .i64 0),(.int .i64 0),(.int .i64 0),(.int .i64 0),(.int .i64 0),(.int .i64 0),(.int .i64 0),(.int .i64 0),(.int .i64 0),(.int .i64 0)] [(1,1,(.c (V.str [109,108,107,101,109,45,97,101,115,50,53,54,45,103,99,109]))),(2,2,(.t 106)),(4,2,(.t 107)),(6,2,(.t 108)),(8,2,(.t 109)),(10,1,(.c (V.int 4))),(11,1,(.c (V.int 4)))])) (.one 80 false [75,50,43,42,30,20,15,7,2] (xo 111 (.bslice 16 12 true [(.int .i64 0),(.string ⟨#[]⟩),(.int .i64 0),(.int .i64 0),(.int .i64 0),(.int .i64 0),(.int .i64 0),(.int .i64 0),(.int .i64 0),(.int .i64 0),(.int .i64 0),(.int .i64 0)] [(0,(.t 35)),(1,(.t 40)),(2,(.t 45)),(3,(.t 50)),(4,(.t 55)),(5,(.t 60)),(6,(.t 65)),(7,(.t 70)),(8,(.t 75)),(9,(.t 80)),(10,(.t 85)),(11,(.t 90)),(12,(.t 95)),(13,(.t 100)),(14,(.t 105)),(15,(.t 110))])) (.one 81 false [80,75,50,43,42,30,20,15,7,2] (mv 15 111) (.done)))) (.done))) (.done))) (.done)) (.done))) (.done))) (.done))) (.done))) (.done))) (.done))))))))))))))))))))))))))))))))))))))))))))))))))))))))))))))))
theorem X4 (Q8:Nat):okR (KM Q8) K8 [] KH = true:=by kernel_rfl
theorem X3 (Q8:Nat):Vo (ris (KM Q8) K8 []) KH = WO Q8:=by kernel_rfl def c_catalog_Suites (Q8:Nat):AC:=QF [] (.reg [xo 0 (.mknil 12)]) (QF [1,2,3,4,5] (.reg [xo 17 (.call Q8 [(.c (V.int 10)),(.c (V.int 0))]),xo 18 (.call Q8 [(.c (V.int 5)),(.c (V.int 0))]),xo 19 (.call Q8 [(.c (V.int 6)),(.c (V.int 0))]),xo 20 (.call Q8 [(.c (V.int 7)),(.c (V.int 0))]),xo 21 (.build [(.int .i64 0),(.int .i64 0)] []),xo 1 (.alloc [.val (.int .i64 0),.val (.int .i64 0)]),xo 2 (.alloc [.val (.int .i64 0),.val (.int .i64 0)]),xo 3 (.alloc [.val (.int .i64 0),.val (.int .i64 0)]),xo 4 (.alloc [.val (.int .i64 0),.val (.int .i64 0)]),xo 5 (.alloc [.val (.int .i64 0),.val (.int .i64 0)]),xs 2 1 17,xs 2 2 18,xs 2 3 19,xs 2 4 20,xs 2 5 21]) (QF [1,2,3,4,5,6,7,8,9,10] (.reg [xo 22 (.call Q8 [(.c (V.int 15)),(.c (V.int 168))]),xo 23 (.call Q8 [(.c (V.int 16)),(.c (V.int 128))]),xo 24 (.call Q8 [(.c (V.int 17)),(.c (V.int 128))]),xo 25 (.call Q8 [(.c (V.int 17)),(.c (V.int 256))]),xo 26 (.call Q8 [(.c (V.int 18)),(.c (V.int 0))]),xo 6 (.alloc [.val (.int .i64 0),.val (.int .i64 0)]),xo 7 (.alloc [.val (.int .i64 0),.val (.int .i64 0)]),xo 8 (.alloc [.val (.int .i64 0),.val (.int .i64 0)]),xo 9 (.alloc [.val (.int .i64 0),.val (.int .i64 0)]),xo 10 (.alloc [.val (.int .i64 0),.val (.int .i64 0)]),xs 2 6 22,xs 2 7 23,xs 2 8 24,xs 2 9 25,xs 2 10 26]) (QF [1,2,3,4,5,6,7,8,9,10,11,12,13,14] (.reg [xo 27 (.call Q8 [(.c (V.int 19)),(.c (V.int 0))]),xo 28 (.call Q8 [(.c (V.int 20)),(.c (V.int 0))]),xo 29 (.call Q8 [(.c (V.int 22)),(.c (V.int 0))]),xo 30 (.call Q8 [(.c (V.int 12)),(.c (V.int 256))]),xo 11 (.alloc [.val (.int .i64 0),.val (.int .i64 0)]),xo 12 (.alloc [.val (.int .i64 0),.val (.int .i64 0)]),xo 13 (.alloc [.val (.int .i64 0),.val (.int .i64 0)]),xo 14 (.alloc [.val (.int .i64 0),.val (.int .i64 0)]),xs 2 11 27,xs 2 12 28,xs 2 13 29,xs 2 14 30]) (QF [15] (aaY [] KH (WO Q8) (KM Q8) K8) (QF [15] (QF [15,113,114] (.reg [mv 112 15,ln 113 112,mc 114 (V.int 0)]) (.block 0 (Wv [15,113,114] (QF [15,113,114,115] (.reg [bn 115 .lss 114 113]) (QF [15,113,114] (.cond (.t 115) (.skip) (.exit 0)) (QF [15,113,114] (.block 1 (QF [15,16,113,114] (.reg [mv 116 114,mv 16 116]) (.reg [mv 117 15,mv 118 16,mv 119 16,bc 120 .add 119 (V.int 1),ia 121 12 117 118,fa 122 0 121,xs 1 122 120]))) (.reg [bc 123 .add 114 (V.int 1),mv 114 123]))))))) (QF [0] (.reg [mv 124 15,mv 0 124]) (.ret))))))) def r_catalog_Suites:List Y9:=[.tmp 0]
def Vz (Γ:Env) (f:Nat):Prop:=EvC Γ f [] (.sl 12 (JD.map Q9.v))
theorem ab6 {Γ:Env} {f Q8:Nat} (h:Has Γ.P f 125 (c_catalog_Suites Q8) r_catalog_Suites) (wg:xD Γ Q8):Vz Γ f:=by
  refine Wb h (by simp) (by simp only [V.closed]) fun C hC hm=>?_
  subst hC
  unfold c_catalog_Suites
  repeat' (first|refine Qp fun K' hK=>?_|refine Qt fun K' hK=>?_|refine Qm 82 (fun _=>true) rfl (X4 _) (X3 _) fun K' hK=>?_|refine Qn 82 (fun _=>true) rfl (X4 _) (X3 _) fun K' hK=>?_|refine Qq ?_|refine Qr ?_|refine Qa ?_|((first|refine Qs ⟨_,rfl,fun hc=>?_,fun hc=>?_⟩|refine QM (fun hc=>?_) (fun hc=>?_)|refine QN (fun hc=>?_) (fun hc=>?_))<;>first|(cases hc;done)|((try simp only [znz] at hc);first|exact znf|skip))|refine Qv ?_|refine Qu ?_|simp (maxSteps:=1000000) only [go_sem,WO]|(refine hK _ ?_;clear hK K')|apply And.intro|((first|apply QX|apply Jz);(focus first|exact (wg _ _).b))|exact zlo|omega|exact zms)
  refine JF (ι:=Nat) (fun k=>k≤16) (fun k=>Ym [(15,.hd 0 0 16),(113,V.int 16),(114,V.int k)] [(0,.buf true 12 (ae1 k))] 1) (fun k=>16 - k) 0 (by omega) (Jp [(0,123000)]) (Jq _ (by simp only [go_sem,and_true,true_and,implies_true,Option.some.injEq,exists_eq_left',Ql,Qo];(repeat' (first|rfl|apply And.intro|omega|exact fun h=>h|exact Exists.intro _ rfl))) (by simp only [go_sem,and_true,true_and,implies_true,Option.some.injEq,exists_eq_left',Ql,Qo];(repeat' (first|rfl|apply And.intro|omega|exact fun h=>h|exact Exists.intro _ rfl))) (by simp) (by simp;omega) (by omega)) fun k hk K' hL=>?_
  by_cases hk':k < 16
  · obtain ⟨cs,hget,hcs,hset⟩:=agH k hk'
    have hw:=JO (k:=k) (by omega)
    have hs:(1:Int)≤1:=by omega
    repeat' (first|refine Qp fun K' hK=>?_|refine Qt fun K' hK=>?_|refine Qm 82 (fun _=>true) rfl (X4 _) (X3 _) fun K' hK=>?_|refine Qn 82 (fun _=>true) rfl (X4 _) (X3 _) fun K' hK=>?_|refine Qq ?_|refine Qr ?_|refine Qa ?_|((first|refine Qs ⟨_,rfl,fun hc=>?_,fun hc=>?_⟩|refine QM (fun hc=>?_) (fun hc=>?_)|refine QN (fun hc=>?_) (fun hc=>?_))<;>first|(cases hc;done)|((try simp only [znz] at hc);first|exact znf|skip))|refine Qv ?_|refine Qu ?_|simp (maxSteps:=1000000) only [go_sem,Ym,hget,hw,WO]|(refine hK _ ?_;clear hK K')|apply And.intro|((first|apply QX|apply Jz);(focus first|exact (wg _ _).b))|exact zlo|omega|exact zms)
    refine hL _ (k + 1) (Jp []) (by omega) (by omega) (Jq [] (by simp only [go_sem,and_true,true_and,implies_true,Option.some.injEq,exists_eq_left',Ql,Qo];(repeat' (first|rfl|apply And.intro|omega|exact fun h=>h|exact Exists.intro _ rfl))) (by simp only [go_sem,and_true,true_and,implies_true,Option.some.injEq,exists_eq_left',Ql,Qo];(try simp only [Nat.zero_add,Int.toNat_natCast,List.take_zero,List.nil_append,hset]);(repeat' (first|rfl|apply And.intro|omega|exact fun h=>h|exact Exists.intro _ rfl))) (by simp) (by simp) (by omega))
  · obtain rfl:k = 16:=by omega
    repeat' (first|refine Qp fun K' hK=>?_|refine Qt fun K' hK=>?_|refine Qm 82 (fun _=>true) rfl (X4 _) (X3 _) fun K' hK=>?_|refine Qn 82 (fun _=>true) rfl (X4 _) (X3 _) fun K' hK=>?_|refine Qq ?_|refine Qr ?_|refine Qa ?_|((first|refine Qs ⟨_,rfl,fun hc=>?_,fun hc=>?_⟩|refine QM (fun hc=>?_) (fun hc=>?_)|refine QN (fun hc=>?_) (fun hc=>?_))<;>first|(cases hc;done)|((try simp only [znz] at hc);first|exact znf|skip))|refine Qv ?_|refine Qu ?_|simp (maxSteps:=1000000) only [go_sem,Ym,WO]|(refine hK _ ?_;clear hK K')|apply And.intro|((first|apply QX|apply Jz);(focus first|exact (wg _ _).b))|exact zlo|omega|exact zms)
    refine Je _ rfl ?_;simp only [go_sem]
    rfl
end Av
end
section
set_option linter.unusedSimpArgs false
set_option linter.unusedVariables false
set_option maxRecDepth 10000
namespace Av
open Go
attribute [local irreducible] AWp V7 Kz KE awS awC jS awQ jY JB Wl jJ awR Ws awB okR Vo ris
end Av
end
section
set_option linter.unusedSimpArgs false
set_option linter.unusedVariables false
set_option maxRecDepth 10000
set_option maxHeartbeats 4000000
namespace Av
open Go
attribute [local irreducible] AWp V7 Kz KE awS awC jS awQ jY JB Wl jJ awR Ws awB okR Vo ris
theorem aij (b:Int):0≤agE b agX∧agE b agX≤256:=by
  simp only [agX,agE];repeat' split
  all_goals omega
theorem ais (a:Int):jI a = akT∨jI a∈YV:=by
  unfold jI
  split
  · rename_i ha
    have hk:a.toNat < YV.length:=by have:YV.length = 23:=rfl;omega
    rw [List.getD_eq_getElem?_getD,List.getElem?_eq_getElem hk,Option.getD_some]
    exact .inr (List.getElem_mem hk)
  · exact .inl rfl
theorem afK:∀ r∈YV,∀ x∈r.strengths,0≤x∧x≤256:=by decide
theorem aen (a:Int):∀ x∈(jI a).strengths,0≤x∧x≤256:=by
  rcases ais a with h|h
  · rw [h];simp [akT]
  · exact afK _ h
theorem aim {l:List Int} (h:∀ x∈l,0≤x∧x≤256) (k:Nat):0≤l.getD k 0∧l.getD k 0≤256:=by
  rw [List.getD_eq_getElem?_getD]
  cases hk:l[k]? with
  | none=>simp
  | some x=>simpa using h x (List.mem_of_getElem? hk)
theorem agY {l:List Int} (h:∀ x∈l,0≤x∧x≤256):0≤l.headD 0∧l.headD 0≤256:=by
  cases l with
  | nil=>simp
  | cons x r=>simpa using h x (by simp)
theorem ag7 (b:Int) (h:Uy b 0 [160,224,256,384,521]≥0):b = 160∨b = 224∨b = 256∨b = 384∨b = 521:=by
  simpa using agf _ _ _ h
theorem alz (b:Int) (h:b = 160∨b = 224∨b = 256∨b = 384∨b = 521):IntKind.i64.wrap (b.tdiv 2) = b / 2:=by
  rcases h with rfl|rfl|rfl|rfl|rfl<;>rfl
theorem ad1 (a b:Int):0≤YN a b∧YN a b≤512:=by
  have h1:=aen a
  have h2:=agY h1
  have h3:=aim h1 (Uy b 0 (jI a).sizes).toNat
  have h4:=aij b
  simp only [YN,jc]
  split
  · omega
  · split
    · split<;>omega
    · split
      · split<;>omega
      · split
        · split
          · rename_i hf
            have:=ag7 b hf
            rw [alz b this];omega
          · omega
        · split
          · split<;>omega
          · omega
end Av
end
section
set_option linter.unusedSimpArgs false
set_option linter.unusedVariables false
set_option maxHeartbeats 4000000
set_option maxRecDepth 10000
namespace Av
open Go
attribute [local irreducible] AWp V7 Kz KE awS awC jS awQ jY JB Wl jJ awR Ws awB okR Vo ris
def ai6 (r:abB):V:=.agg [V.str r.name,V.int r.kind]
def agN:List V:=YV.map ai6
theorem agM {k:Nat} {r:abB} (h:YV[k]? = some r):agN[k]? = some (ai6 r):=by
  rw [agN,List.getElem?_map,h];rfl
def vy:AC:=QF [] (.reg [xo 0 (.mknil 2)]) (QF [0] (.reg [xo 1 (.build [(.string ⟨#[]⟩),(.int .i64 0)] []),xo 2 (.build [(.string ⟨#[]⟩),(.int .i64 0)] [(0,1,(.c (V.str [109,100,53]))),(1,1,(.c (V.int 1)))]),xo 3 (.build [(.string ⟨#[]⟩),(.int .i64 0)] [(0,1,(.c (V.str [115,104,97,49]))),(1,1,(.c (V.int 1)))]),xo 4 (.build [(.string ⟨#[]⟩),(.int .i64 0)] [(0,1,(.c (V.str [115,104,97,50,53,54]))),(1,1,(.c (V.int 1)))]),xo 5 (.build [(.string ⟨#[]⟩),(.int .i64 0)] [(0,1,(.c (V.str [115,104,97,51,56,52]))),(1,1,(.c (V.int 1)))]),xo 6 (.build [(.string ⟨#[]⟩),(.int .i64 0)] [(0,1,(.c (V.str [114,115,97]))),(1,1,(.c (V.int 2)))]),xo 7 (.build [(.string ⟨#[]⟩),(.int .i64 0)] [(0,1,(.c (V.str [100,115,97]))),(1,1,(.c (V.int 2)))]),xo 8 (.build [(.string ⟨#[]⟩),(.int .i64 0)] [(0,1,(.c (V.str [101,99,100,115,97]))),(1,1,(.c (V.int 2)))]),xo 9 (.build [(.string ⟨#[]⟩),(.int .i64 0)] [(0,1,(.c (V.str [101,100,50,53,53,49,57]))),(1,1,(.c (V.int 2)))]),xo 10 (.build [(.string ⟨#[]⟩),(.int .i64 0)] [(0,1,(.c (V.str [109,108,100,115,97]))),(1,1,(.c (V.int 2)))]),xo 11 (.build [(.string ⟨#[]⟩),(.int .i64 0)] [(0,1,(.c (V.str [114,115,97,107,120]))),(1,1,(.c (V.int 3)))]),xo 12 (.build [(.string ⟨#[]⟩),(.int .i64 0)] [(0,1,(.c (V.str [100,104,101]))),(1,1,(.c (V.int 3)))]),xo 13 (.build [(.string ⟨#[]⟩),(.int .i64 0)] [(0,1,(.c (V.str [101,99,100,104,101]))),(1,1,(.c (V.int 3)))]),xo 14 (.build [(.string ⟨#[]⟩),(.int .i64 0)] [(0,1,(.c (V.str [109,108,107,101,109]))),(1,1,(.c (V.int 3)))]),xo 15 (.build [(.string ⟨#[]⟩),(.int .i64 0)] [(0,1,(.c (V.str [114,99,52]))),(1,1,(.c (V.int 4)))]),xo 16 (.build [(.string ⟨#[]⟩),(.int .i64 0)] [(0,1,(.c (V.str [100,101,115,51]))),(1,1,(.c (V.int 4)))]),xo 17 (.build [(.string ⟨#[]⟩),(.int .i64 0)] [(0,1,(.c (V.str [97,101,115,99,98,99]))),(1,1,(.c (V.int 4)))]),xo 18 (.build [(.string ⟨#[]⟩),(.int .i64 0)] [(0,1,(.c (V.str [97,101,115,103,99,109]))),(1,1,(.c (V.int 4)))]),xo 19 (.build [(.string ⟨#[]⟩),(.int .i64 0)] [(0,1,(.c (V.str [99,104,97,99,104,97]))),(1,1,(.c (V.int 4)))]),xo 20 (.build [(.string ⟨#[]⟩),(.int .i64 0)] [(0,1,(.c (V.str [104,109,97,99,109,100,53]))),(1,1,(.c (V.int 5)))]),xo 21 (.build [(.string ⟨#[]⟩),(.int .i64 0)] [(0,1,(.c (V.str [104,109,97,99,115,104,97,49]))),(1,1,(.c (V.int 5)))]),xo 22 (.build [(.string ⟨#[]⟩),(.int .i64 0)] [(0,1,(.c (V.str [104,109,97,99,115,104,97,50,53,54]))),(1,1,(.c (V.int 5)))]),xo 23 (.build [(.string ⟨#[]⟩),(.int .i64 0)] [(0,1,(.c (V.str [97,101,97,100]))),(1,1,(.c (V.int 5)))]),xo 24 (.bslice 23 2 true [(.string ⟨#[]⟩),(.int .i64 0)] [(0,(.t 1)),(1,(.t 2)),(2,(.t 3)),(3,(.t 4)),(4,(.t 5)),(5,(.t 6)),(6,(.t 7)),(7,(.t 8)),(8,(.t 9)),(9,(.t 10)),(10,(.t 11)),(11,(.t 12)),(12,(.t 13)),(13,(.t 14)),(14,(.t 15)),(15,(.t 16)),(16,(.t 17)),(17,(.t 18)),(18,(.t 19)),(19,(.t 20)),(20,(.t 21)),(21,(.t 22)),(22,(.t 23))]),mv 0 24]) (.ret)) def r_ref02_rows:List Y9:=[.tmp 0]
def wK (Γ:Env) (f:Nat):Prop:=EvC Γ f [] (.sl 2 agN)
theorem afp {Γ:Env} {f:Nat} (h:Has Γ.P f 25 vy r_ref02_rows) :wK Γ f:=by
  refine Wb h (by simp) (by simp only [V.closed]) fun C hC hm=>?_
  subst hC
  unfold vy
  repeat' (first|refine Qp fun K' hK=>?_|refine Qt fun K' hK=>?_|refine Qq ?_|refine Qr ?_|refine Qa ?_|((first|refine Qs ⟨_,rfl,fun hc=>?_,fun hc=>?_⟩|refine QM (fun hc=>?_) (fun hc=>?_)|refine QN (fun hc=>?_) (fun hc=>?_))<;>first|(cases hc;done)|((try simp only [znz] at hc);first|exact znf|skip))|refine Qv ?_|refine Qu ?_|simp (maxSteps:=1000000) only [go_sem]|(refine hK _ ?_;clear hK K')|apply And.intro|exact zlo|omega|exact zms)
  refine Je _ rfl ?_;simp only [go_sem]
  rfl
theorem akA (s:List UInt8):Vs s 1 (YV.drop 1) = Vs s 0 YV:=by rfl
def vz (yQ:Nat):AC:=QF [0] (.reg [mc 2 (V.int 0)]) (QF [] (QF [0,3] (.reg [mc 3 (V.int 1)]) (.block 0 (Wv [0,3] (QF [0,3] (QF [0,3,5] (.reg [mv 4 3,bc 5 .leq 4 (V.int 22)]) (.cond (.t 5) (.skip) (.exit 0))) (QF [0,3] (.block 1 (QF [0,3,14] (.reg [cl 8 yQ [],mv 9 3,ia 10 2 8 9,fa 11 0 10,ld 12 1 11,mv 13 0,bn 14 .eql 12 13]) (.cond (.t 14) (QF [2] (.reg [mv 15 3,mv 2 15]) (.ret)) (.skip)))) (.reg [mv 6 3,bc 7 .add 6 (V.int 1),mv 3 7])))))) (QF [2] (.reg [mc 2 (V.int 0)]) (.ret))) def r_ref02_Find:List Y9:=[.tmp 2]
def jV (Γ:Env) (f:Nat):Prop:=∀ (s:List UInt8),EvN Γ f [V.str s] (V.int (Vs s 0 YV))
theorem afq {Γ:Env} {f yQ:Nat} (h:Has Γ.P f 16 (vz yQ) r_ref02_Find) (vo:wK Γ yQ):jV Γ f:=by
  intro s
  refine Jb h (by simp) (by simp only [V.closed,Qw,V.noSl,JL,and_self,and_true,true_and]) (by simp only [V.closed,Qw,V.noSl,JL,and_self,and_true,true_and]) fun C hC hm=>?_
  subst hC
  unfold vz
  repeat' (first|refine Qp fun K' hK=>?_|refine Qt fun K' hK=>?_|refine Qq ?_|refine Qr ?_|refine Qa ?_|((first|refine Qs ⟨_,rfl,fun hc=>?_,fun hc=>?_⟩|refine QM (fun hc=>?_) (fun hc=>?_)|refine QN (fun hc=>?_) (fun hc=>?_))<;>first|(cases hc;done)|((try simp only [znz] at hc);first|exact znf|skip))|refine Qv ?_|refine Qu ?_|simp (maxSteps:=1000000) only [go_sem]|(refine hK _ ?_;clear hK K')|apply And.intro|(apply QX;(focus first|exact EvC.b vo))|exact zlo|omega|exact zms)
  refine Wz (ι:=Nat) (fun k=>1≤k∧k≤23∧Vs s k (YV.drop k) = Vs s 0 YV) (fun k=>[(3,V.int k)]) (fun k=>23 - k) 1 (by omega) ⟨by simp,by simp,akA s⟩ (by repeat' first|exact VK|refine Kn (by omega) (by simp only [Ob.lt,ltL,V.lt,and_self,and_true];try omega) ?_) (fun i hi=>by simp only [ovT,YO,Nat.reduceEqDiff,reduceIte];(repeat' first|exact Km|refine VJ ?_ ?_|simp only [V.lt,ltL,and_self,and_true]|omega)) (by simp only [Nat.reduceAdd,ovT,YO,Nat.reduceEqDiff,reduceIte,J9,Yz,w7,u32,u33,u34,u35,u36,u37,u38,u39,and_self,and_true,true_and];rfl) fun k hk K' hL=>?_
  obtain ⟨hk1,hk,hinv⟩:=hk
  have hl:YV.length = 23:=rfl
  simp only [ovT,YO,Nat.reduceEqDiff,reduceIte]
  by_cases hk2:k = 23
  · subst hk2
    repeat' (first|refine Qp fun K' hK=>?_|refine Qt fun K' hK=>?_|refine Qq ?_|refine Qr ?_|refine Qa ?_|((first|refine Qs ⟨_,rfl,fun hc=>?_,fun hc=>?_⟩|refine QM (fun hc=>?_) (fun hc=>?_)|refine QN (fun hc=>?_) (fun hc=>?_))<;>first|(cases hc;done)|((try simp only [znz] at hc);first|exact znf|skip))|refine Qv ?_|refine Qu ?_|simp (maxSteps:=1000000) only [go_sem]|(refine hK _ ?_;clear hK K')|apply And.intro|(apply QX;(focus first|exact EvC.b vo))|exact zlo|omega|exact zms)
    refine Je _ rfl ?_;simp only [go_sem]
    rw [← hinv];rfl
  · obtain ⟨r,hr⟩:∃ r,YV[k]? = some r:=⟨YV[k]'(by omega),List.getElem?_eq_getElem (by omega)⟩
    have hg:=agM hr
    have hd:YV.drop k = r :: YV.drop (k + 1):=by
      rw [List.drop_eq_getElem_cons (by omega)]
      rw [List.getElem?_eq_getElem (by omega)] at hr
      cases hr;rfl
    have hw:=JO (k:=k) (by omega)
    rw [hd] at hinv
    repeat' (first|refine Qp fun K' hK=>?_|refine Qt fun K' hK=>?_|refine Qq ?_|refine Qr ?_|refine Qa ?_|((first|refine Qs ⟨_,rfl,fun hc=>?_,fun hc=>?_⟩|refine QM (fun hc=>?_) (fun hc=>?_)|refine QN (fun hc=>?_) (fun hc=>?_))<;>first|(cases hc;done)|((try simp only [znz] at hc);first|exact znf|skip))|refine Qv ?_|refine Qu ?_|simp (maxSteps:=1000000) only [go_sem,Int.toNat_natCast,hg,ai6,hw]|(refine hK _ ?_;clear hK K')|apply And.intro|(apply QX;(focus first|exact EvC.b vo))|exact zlo|omega|exact zms)
    · refine Je _ rfl ?_;simp only [go_sem]
      rw [← hinv];simp [Vs,hc];omega
    · refine hL _ (k + 1) (by simp only [Nat.reduceAdd,ovT,YO,Nat.reduceEqDiff,reduceIte,J9,Yz,w7,u32,u33,u34,u35,u36,u37,u38,u39,and_self,and_true,true_and]) ⟨by omega,by omega,?_⟩ (by omega) (fun a ha=>by simp only [u32,u33,u34,u35,u36,u37,u38,u39];repeat rw [if_neg (by omega)])
      rw [← hinv,Vs,if_neg (by first|omega|simp [hc])]
def yl (b:Int):List Int→List Int→Int
  | x :: xs,y :: ys=>if x = b then y else yl b xs ys
  | _,_=>0
def wx:AC:=QF [0,1,2] (.reg [mc 6 (V.int 0)]) (QF [] (QF [0,1,2,7] (.reg [mc 7 (V.int 0)]) (.block 0 (Wv [0,1,2,7] (QF [0,1,2,7] (QF [0,1,2,7,11] (.reg [mv 8 7,mv 9 1,ln 10 9,bn 11 .lss 8 10]) (.cond (.t 11) (.skip) (.exit 0))) (QF [0,1,2,7] (.block 1 (QF [0,1,2,7,19] (.reg [mv 14 1,mv 15 7,ia 16 1 14 15,ld 17 1 16,mv 18 0,bn 19 .eql 17 18]) (.cond (.t 19) (QF [6] (.reg [mv 20 2,mv 21 7,ia 22 1 20 21,ld 23 1 22,mv 6 23]) (.ret)) (.skip)))) (.reg [mv 12 7,bc 13 .add 12 (V.int 1),mv 7 13])))))) (QF [6] (.reg [mc 6 (V.int 0)]) (.ret))) def r_ref02_among:List Y9:=[.tmp 6]
def xA (Γ:Env) (f:Nat):Prop:=∀ (b:Int) (xs ys:List Int) (hs:xs.length≤ys.length) (h2:xs.length < 2 ^ 62),EvN Γ f [V.int b,.sl 1 (xs.map V.int),.sl 1 (ys.map V.int)] (V.int (yl b xs ys))
theorem aei {Γ:Env} {f:Nat} (h:Has Γ.P f 24 wx r_ref02_among) :xA Γ f:=by
  intro b xs ys hs h2
  refine Jb h (by simp) (by simp only [V.closed,Qw,V.noSl,JL,and_self,and_true,true_and]) (by simp only [V.closed,Qw,V.noSl,JL,and_self,and_true,true_and]) fun C hC hm=>?_
  subst hC
  unfold wx
  repeat' (first|refine Qp fun K' hK=>?_|refine Qt fun K' hK=>?_|refine Qq ?_|refine Qr ?_|refine Qa ?_|((first|refine Qs ⟨_,rfl,fun hc=>?_,fun hc=>?_⟩|refine QM (fun hc=>?_) (fun hc=>?_)|refine QN (fun hc=>?_) (fun hc=>?_))<;>first|(cases hc;done)|((try simp only [znz] at hc);first|exact znf|skip))|refine Qv ?_|refine Qu ?_|simp (maxSteps:=1000000) only [go_sem]|(refine hK _ ?_;clear hK K')|apply And.intro|exact zlo|omega|exact zms)
  refine Wz (ι:=Nat) (fun k=>k≤xs.length∧yl b (xs.drop k) (ys.drop k) = yl b xs ys) (fun k=>[(7,V.int k)]) (fun k=>xs.length - k) 0 (by omega) ⟨by simp,by simp⟩ (by repeat' first|exact VK|refine Kn (by omega) (by simp only [Ob.lt,ltL,V.lt,and_self,and_true];try omega) ?_) (fun i hi=>by simp only [ovT,YO,Nat.reduceEqDiff,reduceIte];(repeat' first|exact Km|refine VJ ?_ ?_|simp only [V.lt,ltL,and_self,and_true]|omega)) (by simp only [Nat.reduceAdd,ovT,YO,Nat.reduceEqDiff,reduceIte,J9,Yz,w7,u32,u33,u34,u35,u36,u37,u38,u39,and_self,and_true,true_and];rfl) fun k hk K' hL=>?_
  obtain ⟨hk,hinv⟩:=hk
  simp only [ovT,YO,Nat.reduceEqDiff,reduceIte]
  rcases hd:xs.drop k with _|⟨x,r⟩
  · have:=YX hd
    rw [hd] at hinv
    repeat' (first|refine Qp fun K' hK=>?_|refine Qt fun K' hK=>?_|refine Qq ?_|refine Qr ?_|refine Qa ?_|((first|refine Qs ⟨_,rfl,fun hc=>?_,fun hc=>?_⟩|refine QM (fun hc=>?_) (fun hc=>?_)|refine QN (fun hc=>?_) (fun hc=>?_))<;>first|(cases hc;done)|((try simp only [znz] at hc);first|exact znf|skip))|refine Qv ?_|refine Qu ?_|simp (maxSteps:=1000000) only [go_sem]|(refine hK _ ?_;clear hK K')|apply And.intro|exact zlo|omega|exact zms)
    refine Je _ rfl ?_;simp only [go_sem]
    rw [← hinv];simp [yl]
  · obtain ⟨hk',hget,hr⟩:=Yp hd
    rcases hd2:ys.drop k with _|⟨y,r2⟩
    · have:=YX hd2;omega
    · obtain ⟨hk2,hget2,hr2⟩:=Yp hd2
      rw [hd,hd2] at hinv
      have hw:=JO (k:=k) (by omega)
      repeat' (first|refine Qp fun K' hK=>?_|refine Qt fun K' hK=>?_|refine Qq ?_|refine Qr ?_|refine Qa ?_|((first|refine Qs ⟨_,rfl,fun hc=>?_,fun hc=>?_⟩|refine QM (fun hc=>?_) (fun hc=>?_)|refine QN (fun hc=>?_) (fun hc=>?_))<;>first|(cases hc;done)|((try simp only [znz] at hc);first|exact znf|skip))|refine Qv ?_|refine Qu ?_|simp (maxSteps:=1000000) only [go_sem,Int.toNat_natCast,List.getElem?_map,hget,hget2,hw]|(refine hK _ ?_;clear hK K')|apply And.intro|exact zlo|omega|exact zms)
      · refine Je _ rfl ?_;simp only [go_sem]
        rw [← hinv];simp [yl,hc]
      · refine hL _ (k + 1) (by simp only [Nat.reduceAdd,ovT,YO,Nat.reduceEqDiff,reduceIte,J9,Yz,w7,u32,u33,u34,u35,u36,u37,u38,u39,and_self,and_true,true_and]) ⟨by omega,?_⟩ (by omega) (fun a ha=>by simp only [u32,u33,u34,u35,u36,u37,u38,u39];repeat rw [if_neg (by omega)])
        rw [hr,hr2,← hinv,yl,if_neg hc]
def aap (a:Int):Int:=if a = 1 then 18 else if a = 2 then 60 else if a = 3∨a = 8∨a = 21 then 128 else if a = 4 then 192 else if a = 18∨a = 22 then 256 else if a = 19 then 64 else if a = 20 then 80 else 0
def amC (b:Int):Int:=if b < 512∨16384 < b then 0 else agE b agX
def xh:AC:=QF [0] (.reg [mc 2 (V.int 0)]) (QF [] (QF [3] (.reg [mv 3 0]) (.block 0 (QF [3,4] (.reg [bc 5 .eql 3 (V.int 1),mv 4 5]) (.cond (.t 4) (QF [2] (.reg [mc 2 (V.int 18)]) (.ret)) (QF [3,6] (.reg [bc 7 .eql 3 (V.int 2),mv 6 7]) (.cond (.t 6) (QF [2] (.reg [mc 2 (V.int 60)]) (.ret)) (QF [3,8] (QF [3,8] (.reg [bc 9 .eql 3 (V.int 3),mv 8 9]) (.cond (.t 8) (.skip) (QF [3,8] (.reg [bc 10 .eql 3 (V.int 8),mv 8 10]) (.cond (.t 8) (.skip) (.reg [bc 11 .eql 3 (V.int 21),mv 8 11]))))) (.cond (.t 8) (QF [2] (.reg [mc 2 (V.int 128)]) (.ret)) (QF [3,12] (.reg [bc 13 .eql 3 (V.int 4),mv 12 13]) (.cond (.t 12) (QF [2] (.reg [mc 2 (V.int 192)]) (.ret)) (QF [3,14] (QF [3,14] (.reg [bc 15 .eql 3 (V.int 18),mv 14 15]) (.cond (.t 14) (.skip) (.reg [bc 16 .eql 3 (V.int 22),mv 14 16]))) (.cond (.t 14) (QF [2] (.reg [mc 2 (V.int 256)]) (.ret)) (QF [3,17] (.reg [bc 18 .eql 3 (V.int 19),mv 17 18]) (.cond (.t 17) (QF [2] (.reg [mc 2 (V.int 64)]) (.ret)) (QF [19] (.reg [bc 20 .eql 3 (V.int 20),mv 19 20]) (.cond (.t 19) (QF [2] (.reg [mc 2 (V.int 80)]) (.ret)) (.skip))))))))))))))))) (QF [2] (.reg [mc 2 (V.int 0)]) (.ret))) def r_ref02_single:List Y9:=[.tmp 2]
def yn (Γ:Env) (f:Nat):Prop:=∀ (a:Int),EvN Γ f [V.int a] (V.int (aap a))
theorem adE {Γ:Env} {f:Nat} (h:Has Γ.P f 21 xh r_ref02_single) :yn Γ f:=by
  intro a
  refine Jb h (by simp) (by simp only [V.closed,Qw,V.noSl,JL,and_self,and_true,true_and]) (by simp only [V.closed,Qw,V.noSl,JL,and_self,and_true,true_and]) fun C hC hm=>?_
  subst hC
  unfold xh
  repeat' (first|refine Qp fun K' hK=>?_|refine Qt fun K' hK=>?_|refine Qq ?_|refine Qr ?_|refine Qa ?_|((first|refine Qs ⟨_,rfl,fun hc=>?_,fun hc=>?_⟩|refine QM (fun hc=>?_) (fun hc=>?_)|refine QN (fun hc=>?_) (fun hc=>?_))<;>first|(cases hc;done)|((try simp only [znz] at hc);first|exact znf|skip))|refine Qv ?_|refine Qu ?_|simp (maxSteps:=1000000) only [go_sem]|(refine hK _ ?_;clear hK K')|apply And.intro|exact zlo|omega|exact zms)
  all_goals (refine Je _ rfl ?_;simp only [go_sem];simp [aap, *])
def yf:AC:=QF [0] (.reg [mc 2 (V.int 0)]) (QF [] (.block 0 (QF [0,3] (.reg [mv 4 0,bc 5 .lss 4 (V.int 512),mv 6 5,mg 7 0 6 false,xg 8 (.bin .gtr (.t 7) (.c (V.int 16384))) 6 false,xo 9 (.pick (.t 6) (.c (V.bool true)) (.t 8)),mv 3 9]) (.cond (.t 3) (QF [2] (.reg [mc 2 (V.int 0)]) (.ret)) (QF [0,10] (.reg [mv 11 0,bc 12 .lss 11 (V.int 1024),mv 10 12]) (.cond (.t 10) (QF [2] (.reg [mc 2 (V.int 56)]) (.ret)) (QF [0,13] (.reg [mv 14 0,bc 15 .lss 14 (V.int 2048),mv 13 15]) (.cond (.t 13) (QF [2] (.reg [mc 2 (V.int 80)]) (.ret)) (QF [0,16] (.reg [mv 17 0,bc 18 .lss 17 (V.int 3072),mv 16 18]) (.cond (.t 16) (QF [2] (.reg [mc 2 (V.int 112)]) (.ret)) (QF [0,19] (.reg [mv 20 0,bc 21 .lss 20 (V.int 7680),mv 19 21]) (.cond (.t 19) (QF [2] (.reg [mc 2 (V.int 128)]) (.ret)) (QF [22] (.reg [mv 23 0,bc 24 .lss 23 (V.int 15360),mv 22 24]) (.cond (.t 22) (QF [2] (.reg [mc 2 (V.int 192)]) (.ret)) (.skip)))))))))))))) (QF [2] (.reg [mc 2 (V.int 256)]) (.ret))) def r_ref02_modulus:List Y9:=[.tmp 2]
def jF (Γ:Env) (f:Nat):Prop:=∀ (b:Int),EvN Γ f [V.int b] (V.int (amC b))
theorem acM {Γ:Env} {f:Nat} (h:Has Γ.P f 25 yf r_ref02_modulus) :jF Γ f:=by
  intro b
  refine Jb h (by simp) (by simp only [V.closed,Qw,V.noSl,JL,and_self,and_true,true_and]) (by simp only [V.closed,Qw,V.noSl,JL,and_self,and_true,true_and]) fun C hC hm=>?_
  subst hC
  unfold yf
  repeat' (first|refine Qp fun K' hK=>?_|refine Qt fun K' hK=>?_|refine Qq ?_|refine Qr ?_|refine Qa ?_|((first|refine Qs ⟨_,rfl,fun hc=>?_,fun hc=>?_⟩|refine QM (fun hc=>?_) (fun hc=>?_)|refine QN (fun hc=>?_) (fun hc=>?_))<;>first|(cases hc;done)|((try simp only [znz] at hc);first|exact znf|skip))|refine Qv ?_|refine Qu ?_|simp (maxSteps:=1000000) only [go_sem]|(refine hK _ ?_;clear hK K')|apply And.intro|exact zlo|omega|exact zms)
  all_goals (refine Je _ rfl ?_;simp only [go_sem];simp only [amC,agE,agX];repeat' split)<;>omega
def xW (a b:Int):Int :=
  if a = 5∨a = 6∨a = 10∨a = 11 then amC b
  else if a = 7∨a = 12 then (if b = 160∨b = 224∨b = 256∨b = 384∨b = 521 then IntKind.i64.wrap (b.tdiv 2) else 0)
  else if a = 9 then yl b [44,65,87] [128,192,256]
  else if a = 13 then yl b [512,768,1024] [128,192,256]
  else if a = 14 then yl b [40,128] [40,60]
  else if a = 15 then yl b [112,168] [80,112]
  else if a = 16∨a = 17 then yl b [128,256] [128,256]
  else yl b [0] [aap a]
theorem ahY (a:Int) (ha:¬ (1≤a∧a≤22)):aap a = 0:=by
  simp only [aap];repeat' split
  all_goals omega
theorem ad4 (a b:Int):xW a b = YN a b:=by
  by_cases ha:1≤a∧a≤22
  · rcases (by omega:a = 1∨a = 2∨a = 3∨a = 4∨a = 5∨a = 6∨a = 7∨a = 8∨a = 9∨a = 10∨a = 11∨a = 12∨a = 13∨a = 14∨a = 15∨a = 16∨a = 17∨a = 18∨a = 19∨a = 20∨a = 21∨a = 22) with rfl|rfl|rfl|rfl|rfl|rfl|rfl|rfl|rfl|rfl|rfl|rfl|rfl|rfl|rfl|rfl|rfl|rfl|rfl|rfl|rfl|rfl
    all_goals simp [xW,YN,jc,jI,YV,yl,aap,Uy,amC]
    all_goals (repeat' split)<;>first|omega|rfl|simp_all
  · have hs:=ahY a ha
    rw [YN,jc,if_pos (by simp [ha])]
    simp only [xW]
    rw [if_neg (by omega),if_neg (by omega),if_neg (by omega),if_neg (by omega),if_neg (by omega),if_neg (by omega),if_neg (by omega),hs]
    simp [yl]
def ju (KU Wi qZ:Nat):AC:=QF [1] (.reg [xo 1 (.box true 2 (.t 0)),mc 2 (V.int 0)]) (QF [1,3] (.reg [fa 4 1 1,ld 5 1 4,mv 3 5]) (QF [1,3] (QF [1,3,7] (.reg [fa 6 0 1,ld 7 1 6]) (.block 0 (QF [1,3,7,8] (QF [1,3,7,8] (.reg [bc 9 .eql 7 (V.int 5),mv 8 9]) (.cond (.t 8) (.skip) (QF [1,3,7,8] (.reg [bc 10 .eql 7 (V.int 6),mv 8 10]) (.cond (.t 8) (.skip) (QF [1,3,7,8] (.reg [bc 11 .eql 7 (V.int 10),mv 8 11]) (.cond (.t 8) (.skip) (.reg [bc 12 .eql 7 (V.int 11),mv 8 12]))))))) (.cond (.t 8) (QF [2] (.reg [mv 13 3,cl 14 KU [13],mv 2 14]) (.ret)) (QF [1,3,7,15] (QF [1,3,7,15] (.reg [bc 16 .eql 7 (V.int 7),mv 15 16]) (.cond (.t 15) (.skip) (.reg [bc 17 .eql 7 (V.int 12),mv 15 17]))) (.cond (.t 15) (QF [] (QF [3,35] (.reg [mv 18 3,bc 19 .eql 18 (V.int 160),mv 20 19,mg 21 3 20 false,xg 22 (.bin .eql (.t 21) (.c (V.int 224))) 20 false,xo 23 (.pick (.t 20) (.c (V.bool true)) (.t 22)),mv 24 23,mg 25 3 24 false,xg 26 (.bin .eql (.t 25) (.c (V.int 256))) 24 false,xo 27 (.pick (.t 24) (.c (V.bool true)) (.t 26)),mv 28 27,mg 29 3 28 false,xg 30 (.bin .eql (.t 29) (.c (V.int 384))) 28 false,xo 31 (.pick (.t 28) (.c (V.bool true)) (.t 30)),mv 32 31,mg 33 3 32 false,xg 34 (.bin .eql (.t 33) (.c (V.int 521))) 32 false,xo 35 (.pick (.t 32) (.c (V.bool true)) (.t 34))]) (.cond (.t 35) (QF [2] (.reg [mv 36 3,bc 37 .quo 36 (V.int 2),mv 2 37]) (.ret)) (.skip))) (QF [2] (.reg [mc 2 (V.int 0)]) (.ret))) (QF [1,3,7,38] (.reg [bc 39 .eql 7 (V.int 9),mv 38 39]) (.cond (.t 38) (QF [2] (.reg [mv 40 3,xo 41 (.bslice 3 1 false [(.int .i64 0)] [(0,(.c (V.int 44))),(1,(.c (V.int 65))),(2,(.c (V.int 87)))]),xo 42 (.bslice 3 1 false [(.int .i64 0)] [(0,(.c (V.int 128))),(1,(.c (V.int 192))),(2,(.c (V.int 256)))]),cl 43 Wi [40,41,42],mv 2 43]) (.ret)) (QF [1,3,7,44] (.reg [bc 45 .eql 7 (V.int 13),mv 44 45]) (.cond (.t 44) (QF [2] (.reg [mv 46 3,xo 47 (.bslice 3 1 false [(.int .i64 0)] [(0,(.c (V.int 512))),(1,(.c (V.int 768))),(2,(.c (V.int 1024)))]),xo 48 (.bslice 3 1 false [(.int .i64 0)] [(0,(.c (V.int 128))),(1,(.c (V.int 192))),(2,(.c (V.int 256)))]),cl 49 Wi [46,47,48],mv 2 49]) (.ret)) (QF [1,3,7,50] (.reg [bc 51 .eql 7 (V.int 14),mv 50 51]) (.cond (.t 50) (QF [2] (.reg [mv 52 3,xo 53 (.bslice 2 1 false [(.int .i64 0)] [(0,(.c (V.int 40))),(1,(.c (V.int 128)))]),xo 54 (.bslice 2 1 false [(.int .i64 0)] [(0,(.c (V.int 40))),(1,(.c (V.int 60)))]),cl 55 Wi [52,53,54],mv 2 55]) (.ret)) (QF [1,3,7,56] (.reg [bc 57 .eql 7 (V.int 15),mv 56 57]) (.cond (.t 56) (QF [2] (.reg [mv 58 3,xo 59 (.bslice 2 1 false [(.int .i64 0)] [(0,(.c (V.int 112))),(1,(.c (V.int 168)))]),xo 60 (.bslice 2 1 false [(.int .i64 0)] [(0,(.c (V.int 80))),(1,(.c (V.int 112)))]),cl 61 Wi [58,59,60],mv 2 61]) (.ret)) (QF [1,3,62] (QF [1,3,7,62] (.reg [bc 63 .eql 7 (V.int 16),mv 62 63]) (.cond (.t 62) (.skip) (.reg [bc 64 .eql 7 (V.int 17),mv 62 64]))) (.cond (.t 62) (QF [2] (.reg [mv 65 3,xo 66 (.bslice 2 1 false [(.int .i64 0)] [(0,(.c (V.int 128))),(1,(.c (V.int 256)))]),xo 67 (.bslice 2 1 false [(.int .i64 0)] [(0,(.c (V.int 128))),(1,(.c (V.int 256)))]),cl 68 Wi [65,66,67],mv 2 68]) (.ret)) (.skip))))))))))))))))) (QF [2] (.reg [mv 69 3,xo 70 (.bslice 1 1 false [(.int .i64 0)] [(0,(.c (V.int 0)))]),fa 71 0 1,ld 72 1 71,cl 73 qZ [72],xo 74 (.bslice 1 1 false [(.int .i64 0)] [(0,(.t 73))]),cl 75 Wi [69,70,74],mv 2 75]) (.ret)))) def r_ref02_Strength:List Y9:=[.tmp 2]
def qQ (Γ:Env) (f:Nat):Prop:=∀ (a b:Int),EvN Γ f [.agg [V.int a,V.int b]] (V.int (YN a b))
theorem ab0 {Γ:Env} {f KU Wi qZ:Nat} (h:Has Γ.P f 76 (ju KU Wi qZ) r_ref02_Strength) (adB:jF Γ KU) (VN:xA Γ Wi) (aec:yn Γ qZ):qQ Γ f:=by
  intro a b
  refine Jb h (by simp) (by simp only [V.closed,Qw,V.noSl,JL,and_self,and_true,true_and]) (by simp only [V.closed,Qw,V.noSl,JL,and_self,and_true,true_and]) fun C hC hm=>?_
  subst hC
  unfold ju
  rw [← ad4]
  have k1:=VN b [44,65,87] [128,192,256] (by simp) (by simp)
  have k2:=VN b [512,768,1024] [128,192,256] (by simp) (by simp)
  have k3:=VN b [40,128] [40,60] (by simp) (by simp)
  have k4:=VN b [112,168] [80,112] (by simp) (by simp)
  have k5:=VN b [128,256] [128,256] (by simp) (by simp)
  have k6:=VN b [0] [aap a] (by simp) (by simp)
  repeat' (first|refine Qp fun K' hK=>?_|refine Qt fun K' hK=>?_|refine Qq ?_|refine Qr ?_|refine Qa ?_|((first|refine Qs ⟨_,rfl,fun hc=>?_,fun hc=>?_⟩|refine QM (fun hc=>?_) (fun hc=>?_)|refine QN (fun hc=>?_) (fun hc=>?_))<;>first|(cases hc;done)|((try simp only [znz] at hc);first|exact znf|skip))|refine Qv ?_|refine Qu ?_|simp (maxSteps:=1000000) only [go_sem]|(refine hK _ ?_;clear hK K')|apply And.intro|(apply QX;(focus first|exact k1.b|exact k2.b|exact k3.b|exact k4.b|exact k5.b|exact k6.b|exact (adB _).b|exact (VN _ _ _ zsd zsd).b|exact (aec _).b))|exact zlo|omega|exact zms)
  all_goals (refine Je _ rfl ?_;simp only [go_sem];simp [xW, *])
end Av
end
section
set_option linter.unusedSimpArgs false
set_option linter.unusedVariables false
set_option maxRecDepth 10000
set_option maxHeartbeats 4000000
namespace Av
open Go
attribute [local irreducible] AWp V7 Kz KE awS awC jS awQ jY JB Wl jJ awR Ws awB okR Vo ris
end Av
end
