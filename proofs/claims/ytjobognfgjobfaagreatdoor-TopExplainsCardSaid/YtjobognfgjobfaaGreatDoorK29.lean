/- A box whose slices are shown for good: its headers become rows that may be read. -/
import Derived.Test.YtjobognfgjobfaaGreatDoorK28
import Derived.Test.YtjobognfgjobfaaGreatDoorK12
import Derived.Test.YtjobognfgjobfaaGreatDoorK23
set_option linter.unusedVariables false
set_option linter.unusedSimpArgs false
noncomputable section
set_option maxRecDepth 10000
set_option maxHeartbeats 4000000
namespace Av
open Go
attribute [local irreducible] AWp WC wb aai awS awC aeM awQ afz Jk qV aes awR jj awB okR aaf ris
def akZ (l:List Qa) (x:Qa):Nat→Nat
 | 0=>0
 | k + 1=>match l[k]? with
   | some y=>if ags y x > 0 then akZ l x k else k + 1
   | none=>k + 1
theorem am5 (l:List Qa) (x:Qa):∀ k,akZ l x k≤k
 | 0=>zj _
 | k + 1=>by
   rw [akZ]
   split
   ·split
    ·exact Zb (am5 l x k)
    ·exact zj _
   ·exact zj _
def as3 (l:List Qa) (x:Qa):Bool:=match akZ l x l.length with
 | 0=>false
 | k + 1=>match l[k]? with
   | some y=>ags y x == 0
   | none=>false
def ahV (l:List Qa) (x:Qa):List Qa:=l.take (akZ l x l.length)++x :: l.drop (akZ l x l.length)
theorem at7 (l:List Qa) (n:Nat):ltO (n + 1) fun k=>[Ob.buf true 11 (l.map Qa.v)][k]?:=fun a x h=>by
 match a,h with
 | 0,h=>cases h;exact ⟨Nat.succ_pos _,trivial⟩
 | a + 1,h=>simp at h
theorem arb (l:List Qa) (x:Qa) (k:Nat):(l.take k).map Qa.v++[x.v]++(l.drop k).map Qa.v = (l.take k++x :: l.drop k).map Qa.v:=by simp
def xH:=qd Proofs.Tryz.f62 [zhn 13,zhn 12,zhn 12]
def abO (Γ:Env) (f:Nat):Prop:=((∀ (l:List Qa) (x:Qa),l.length < 2 ^ 30→as3 l x = true→EvX Γ f [x.v] 11 (l.map Qa.v))∧(∀ (l:List Qa) (x:Qa),l.length < 2 ^ 30→as3 l x = false→EvW Γ f [.sl 11 (l.map Qa.v),x.v] 11 ((ahV l x).map Qa.v)))
theorem ame {Γ:Env} {f:Nat} (h:Has Γ.P f 47 xH.1.1.ac xH.1.2) (z0:vD Γ 132):abO Γ f:=by
 refine ⟨fun l x hl hdp=>?_,fun l x hl hdp=>?_⟩
 ·refine ac4 h (by simp) fun C hC hm=>?_
  subst hC
  simp only [xH,qd,DC.ac]
  have hal:(l.map Qa.v).length = l.length:=zb _
  have ht:List.take (l.map Qa.v).length (l.map Qa.v) = l.map Qa.v:=zG
  simp only [Qa.v,Qa.cells]
  repeat' (first|(refine zsk ?_;intro K' hK)|(refine zrg ?_;intro K' hK)|refine zsp ?_|(refine zsc ?_ ?_<;>intro hc<;>first|exact znh|try simp only [znz] at hc)|simp (maxSteps:=1000000) only [go_sem,hal]|(refine hK _ ?_;clear hK K')|apply zan|((first|apply QA|apply Q3);(focus first|exact (z0 _ _).b))|exact zsq|fail)
  refine Ji (ι:=Nat) (fun k=>k≤l.length∧akZ l x k = akZ l x l.length) (fun k=>[(5,V.int k)]) (fun k=>k) l.length (by omega) ⟨zj _,rfl⟩ (by refine ank (by decide) ?_ (ank (by decide) ?_ (at7 l 5000))<;>simp [Ob.lt,ltL,V.lt,V.str,V.int]) zlt zet fun k hk K' hL=>?_
  obtain ⟨hk,hinv⟩:=hk
  simp only [ovT,Xs,Nat.reduceEqDiff,reduceIte]
  rcases k with _|k
  ·have e1:decide (((0:Nat):Int) > 0) = false:=by decide
   rw [akZ] at hinv
   rw [as3,← hinv] at hdp
   cases hdp
  ·have e1:decide (((k + 1:Nat):Int) > 0) = true:=zn (by omega)
   obtain ⟨y,hy⟩:∃ y,l[k]? = some y:=⟨_,zd (by omega)⟩
   have vy:(l.map Qa.v)[k]? = some y.v:=by rw [zo,hy];rfl
   have po:=(z0 y x).b
   have hwk:IntKind.i64.wrap (((k + 1:Nat):Int) - 1) = (k:Int):=by rw [Jc (by omega) (by omega)];omega
   simp only [Qa.v,Qa.cells] at vy po
   rw [akZ,hy] at hinv
   dsimp only at hinv
   rcases h1:decide (ags y x > 0) with _|_
   ·rw [if_neg (by simp at h1;omega)] at hinv
    rw [as3,← hinv] at hdp
    dsimp only at hdp
    rw [hy] at hdp
    dsimp only at hdp
    repeat' (first|(refine zsk ?_;intro K' hK)|(refine zrg ?_;intro K' hK)|refine zsp ?_|(refine zsc ?_ ?_<;>intro hc<;>first|exact znh|try simp only [znz] at hc)|simp (maxSteps:=1000000) only [go_sem,e1,hal,hwk,vy,h1,hdp,ht,Int.toNat_natCast]|(refine hK _ ?_;clear hK K')|apply zan|((first|apply QA|apply Q3);(focus first|exact po|exact (z0 _ _).b))|exact zsq|fail)
    all_goals first|(rw [← hal];refine ast _ rfl rfl rfl ?_;first|rfl|(simp;done))
   ·rw [if_pos (by simpa using h1)] at hinv
    repeat' (first|(refine zsk ?_;intro K' hK)|(refine zrg ?_;intro K' hK)|refine zsp ?_|(refine zsc ?_ ?_<;>intro hc<;>first|exact znh|try simp only [znz] at hc)|simp (maxSteps:=1000000) only [go_sem,e1,hal,hwk,vy,h1,Int.toNat_natCast]|(refine hK _ ?_;clear hK K')|apply zan|((first|apply QA|apply Q3);(focus first|exact po|exact (z0 _ _).b))|exact zsq|fail)
    all_goals exact hL _ k zet ⟨by omega,hinv⟩ (by omega) zoe
 ·refine Xi h (by simp) (by intro z hx;obtain ⟨y,_,rfl⟩:=kc.1 hx;simp only [Qa.v,Qa.cells,V.noSl,Wi,and_self]) fun C hC hm=>?_
  subst hC
  simp only [xH,qd,DC.ac]
  have hal:(l.map Qa.v).length = l.length:=zb _
  have ht:List.take (l.map Qa.v).length (l.map Qa.v) = l.map Qa.v:=zG
  simp only [Qa.v,Qa.cells]
  repeat' (first|(refine zsk ?_;intro K' hK)|(refine zrg ?_;intro K' hK)|refine zsp ?_|(refine zsc ?_ ?_<;>intro hc<;>first|exact znh|try simp only [znz] at hc)|simp (maxSteps:=1000000) only [go_sem,hal]|(refine hK _ ?_;clear hK K')|apply zan|((first|apply QA|apply Q3);(focus first|exact (z0 _ _).b))|exact zsq|fail)
  refine Ji (ι:=Nat) (fun k=>k≤l.length∧akZ l x k = akZ l x l.length) (fun k=>[(5,V.int k)]) (fun k=>k) l.length (by omega) ⟨zj _,rfl⟩ zol zlt zet fun k hk K' hL=>?_
  obtain ⟨hk,hinv⟩:=hk
  simp only [ovT,Xs,Nat.reduceEqDiff,reduceIte]
  rcases k with _|k
  ·have e1:decide (((0:Nat):Int) > 0) = false:=by decide
   rw [akZ] at hinv
   rw [as3,← hinv] at hdp
   have hj0:List.take 0 (l.map Qa.v) = []:=rfl
   repeat' (first|(refine zsk ?_;intro K' hK)|(refine zrg ?_;intro K' hK)|refine zsp ?_|(refine zsc ?_ ?_<;>intro hc<;>first|exact znh|try simp only [znz] at hc)|simp (maxSteps:=1000000) only [go_sem,e1,hal,Int.toNat_natCast]|(refine hK _ ?_;clear hK K')|apply zan|((first|apply QA|apply Q3);(focus first|exact (z0 _ _).b))|exact zsq|fail)
   all_goals first|(intro z hz;obtain ⟨w,_,rfl⟩:=kc.1 (ky hz);rfl)|(intro z hz;obtain ⟨w,_,rfl⟩:=kc.1 (kP hz);rfl)|(intro z hz;obtain ⟨w,_,rfl⟩:=kc.1 (kP (ky hz));rfl)|(intro z hz;obtain ⟨w,_,rfl⟩:=kc.1 (ky (kP hz));rfl)|(simp only [zv,zU,kF,zb,List.length_cons,List.length_nil];omega)|(refine yK (xs:=(ahV l x).map Qa.v) _ _ rfl ?_ ?_<;>first|(rw [ahV,← hinv];simp [adm,Qa.v,Qa.cells,kO,kW];done)|(rw [ahV,← hinv];simp [Qa.v,Qa.cells];omega)|(rw [ahV,← hinv,← arb];simp only [upd_self,Nat.sub_zero,List.take_zero,List.nil_append,kZ,zH,kO,kW];rw [zi (by simp)];simp [upd,Qa.v,Qa.cells,kO,kW];done)|(rw [ahV,← hinv];simp [upd,Qa.v,Qa.cells,kO,kW,zi,adm];done)|trace_state)
  ·have e1:decide (((k + 1:Nat):Int) > 0) = true:=zn (by omega)
   obtain ⟨y,hy⟩:∃ y,l[k]? = some y:=⟨_,zd (by omega)⟩
   have vy:(l.map Qa.v)[k]? = some y.v:=by rw [zo,hy];rfl
   have po:=(z0 y x).b
   have hwk:IntKind.i64.wrap (((k + 1:Nat):Int) - 1) = (k:Int):=by rw [Jc (by omega) (by omega)];omega
   simp only [Qa.v,Qa.cells] at vy po
   rw [akZ,hy] at hinv
   dsimp only at hinv
   rcases h1:decide (ags y x > 0) with _|_
   ·rw [if_neg (by simp at h1;omega)] at hinv
    rw [as3,← hinv] at hdp
    dsimp only at hdp
    rw [hy] at hdp
    dsimp only at hdp
    repeat' (first|(refine zsk ?_;intro K' hK)|(refine zrg ?_;intro K' hK)|refine zsp ?_|(refine zsc ?_ ?_<;>intro hc<;>first|exact znh|try simp only [znz] at hc)|simp (maxSteps:=1000000) only [go_sem,e1,hal,hwk,vy,h1,hdp,Int.toNat_natCast]|(refine hK _ ?_;clear hK K')|apply zan|((first|apply QA|apply Q3);(focus first|exact po|exact (z0 _ _).b))|exact zsq|fail)
    all_goals first|(intro z hz;obtain ⟨w,_,rfl⟩:=kc.1 (ky hz);rfl)|(intro z hz;obtain ⟨w,_,rfl⟩:=kc.1 (kP hz);rfl)|(intro z hz;obtain ⟨w,_,rfl⟩:=kc.1 (kP (ky hz));rfl)|(intro z hz;obtain ⟨w,_,rfl⟩:=kc.1 (ky (kP hz));rfl)|(simp only [zv,zU,kF,zb,List.length_cons,List.length_nil];omega)|(refine yK (xs:=(ahV l x).map Qa.v) _ _ rfl ?_ ?_<;>first|(rw [ahV,← hinv];simp [adm,Qa.v,Qa.cells,kO,kW];done)|(rw [ahV,← hinv];simp [Qa.v,Qa.cells];omega)|(rw [ahV,← hinv,← arb];simp only [upd_self,Nat.sub_zero,List.take_zero,List.nil_append,kZ,zH,kO,kW];rw [zi (by simp)];simp [upd,Qa.v,Qa.cells,kO,kW];done)|(rw [ahV,← hinv];simp [upd,Qa.v,Qa.cells,kO,kW,zi,adm];done)|trace_state)
   ·rw [if_pos (by simpa using h1)] at hinv
    repeat' (first|(refine zsk ?_;intro K' hK)|(refine zrg ?_;intro K' hK)|refine zsp ?_|(refine zsc ?_ ?_<;>intro hc<;>first|exact znh|try simp only [znz] at hc)|simp (maxSteps:=1000000) only [go_sem,e1,hal,hwk,vy,h1,Int.toNat_natCast]|(refine hK _ ?_;clear hK K')|apply zan|((first|apply QA|apply Q3);(focus first|exact po|exact (z0 _ _).b))|exact zsq|fail)
    all_goals exact hL _ k zet ⟨by omega,hinv⟩ (by omega) zoe
end Av
end
section
namespace Av
open Go
section
variable {C:Ctx} {nt:Nat} {s:St} {K:St→Prop} {E:Nat→St→Prop} {R:St→Prop}
end
end Av
end
section
namespace Av
open Go
structure EvE (Γ:Env) (f:FuncId) (args:List V) (sz:Nat) (xs:List V):Prop where
 ev:Ev Γ f args [] (.tup [.hd 0 0 xs.length,V.int 0]) [.buf true sz xs]
 ns:∀ x∈xs,x.noSl
theorem EvE.c {Γ:Env} {f:FuncId} {args xs:List V} {sz:Nat} (h:EvE Γ f args sz xs):EvC Γ f args (.tup [.sl sz xs,V.int 0]) :=
 ⟨h.ev.shut (br:=[]) (B:=none) (by simp [conv,QR,okB]) trivial (by simp) rfl,by simp only [V.closed,Qb,and_self]⟩
section
variable {Γ:Env} {b:Nat} {r:List AO} {s:St} {d:Option Nat} {f:FuncId} {acts args xs cs cs2:List V} {sz:Nat} {K:St→Prop} {okf:Option (List Nat)→Prop} {a:Nat}
theorem axX (h:EvE Γ f args sz xs) (hc:okf none)
  (hk:WC Γ (b + KK) r { t:=(s.put d (.tup [.hd b 0 xs.length,V.int 0])).t,o:=upd s.o b (some (.buf true sz xs)),n:=s.n } K):aet Γ b r s d f acts args okf K:=by
 rintro rfl rfl
 refine Jj ⟨_,_,_,_,[],none,h.ev,YF _ _ _ hc,trivial,kw,fun x hx=>by simp at hx,by simp,by simp [KK],fun _=>⟨by simp only [V.noSl,Wi,and_self],fun x hx=>?_⟩,?_⟩
 ·simp only [zy] at hx;subst hx;exact h.ns
 ·simp only [YE,Yf,Ob.ren,V.ren,Ks,sig]
  exact hk
end
theorem anG {Γ:Env} {f:FuncId} {nt:Nat} {ac:AC} {rs:List Uh} (hb:Has Γ.P f nt ac rs) {args xs:List V} {sz:Nat} (ha:args.length≤nt) (hn:∀ x∈xs,x.noSl)
  (h:∀ C:Ctx,C.env = Γ→C.m = 0→AWp C nt ac (Yt args []) (K1 0 rs (.tup [.hd 0 0 xs.length,V.int 0]) [.buf true sz xs]) (fun _ _=>False) (K1 0 rs (.tup [.hd 0 0 xs.length,V.int 0]) [.buf true sz xs])):EvE Γ f args sz xs :=
 ⟨Q8 hb ha h,hn⟩
theorem axE {rs:List Uh} {s:St} {xs:List V} {sz:Nat} (a n:Nat) (h:xu s rs = some [.hd a 0 n,V.int 0]) (hn:n = xs.length) (ho:s.o a = some (.buf true sz xs)):K1 0 rs (.tup [.hd 0 0 xs.length,V.int 0]) [.buf true sz xs] s:=by
 subst hn
 exact Yw rs _ _ h ⟨[a],none,by simp [adm,conv,QR],⟨⟨_,ho,fun h=>h,rfl,rfl⟩,trivial⟩,by simp,rfl⟩
structure ayi (Γ:Env) (f:FuncId) (args cs:List V) (sz:Nat) (xs cs2:List V):Prop where
 ev:Ev Γ f (.ptr 0 0 :: args) [.box true cs] (.hd 1 0 xs.length) [.box true cs2,.buf true sz xs]
 c1:Qb cs
 c2:Qb cs2
 ca:Qb args
theorem ayi.d {Γ:Env} {f:FuncId} {args cs:List V} {sz:Nat} {xs cs2:List V} (h:ayi Γ f args cs sz xs cs2):EvD Γ f args cs (.sl sz xs) cs2:=by
 refine ⟨h.ev.shut (br:=[0]) (B:=none) ?_ ⟨⟨_,rfl,fun h=>h,Qn _ _ _ _ h.c2⟩,trivial⟩ (by simp) rfl,?_,h.c1,h.c2⟩
 ·simp [conv,QR,okB]
 ·simp only [V.closed,Qb,and_self]
section
variable {Γ:Env} {b:Nat} {r:List AO} {s:St} {d:Option Nat} {f:FuncId} {args acts:List V} {cs cs2 xs:List V} {sz:Nat} {K:St→Prop} {okf:Option (List Nat)→Prop} {a:Nat}
end
theorem amg {Γ:Env} {f:FuncId} {nt:Nat} {ac:AC} {rs:List Uh} (hb:Has Γ.P f nt ac rs) {args cs cs2 xs:List V} {sz:Nat} (hl:args.length + 1≤nt) (h1:Qb cs) (h2:Qb cs2) (hc:Qb args)
  (h:∀ C:Ctx,C.env = Γ→C.m = 1→AWp C nt ac (Yt (.ptr 0 0 :: args) [.box true cs]) (K1 1 rs (.hd 1 0 xs.length) [.box true cs2,.buf true sz xs]) (fun _ _=>False) (K1 1 rs (.hd 1 0 xs.length) [.box true cs2,.buf true sz xs])):ayi Γ f args cs sz xs cs2 :=
 ⟨Q8 hb (by simpa using hl) fun C hC hm=>h C hC hm,h1,h2,hc⟩
theorem awh {rs:List Uh} {s:St} {cs2 xs:List V} {sz:Nat} (i n:Nat) (h:xu s rs = some [.hd i 0 n]) (h0:s.o 0 = some (.box true cs2)) (hi:s.o i = some (.buf true sz xs)) (hij:decide (1≤i) = true) (h2:Qb cs2) (hn:n = xs.length) :
  K1 1 rs (.hd 1 0 xs.length) [.box true cs2,.buf true sz xs] s:=by
 subst hn
 have e1:=zL hij
 exact Yw rs _ _ h ⟨[0,i],none,by simp [adm,conv,QR],⟨⟨_,h0,fun h=>h,Qn _ _ _ _ h2⟩,⟨_,hi,fun h=>h,rfl,rfl⟩,trivial⟩,by simp;omega,rfl⟩
end Av
end
noncomputable section
set_option maxRecDepth 10000
set_option maxHeartbeats 4000000
namespace Av
open Go
attribute [local irreducible] AWp WC wb aai awS awC aeM awQ afz Jk qV aes awR jj awB okR aaf ris
def agn (out:List Qa) (x:Qa):List Qa:=if as3 out x = true then out else ahV out x
def Xr (l:List Qa):List Qa:=l.foldl agn []
theorem aoB (l:List Qa) (x:Qa):(ahV l x).length = l.length + 1:=by
 have:=am5 l x l.length
 simp [ahV];omega
theorem alb (l:List Qa) (x:Qa):(agn l x).length≤l.length + 1:=by
 unfold agn;split
 ·omega
 ·rw [aoB];exact zj _
theorem al3:∀ (l out:List Qa),(l.foldl agn out).length≤out.length + l.length
 | [],out=>by simp
 | x :: r,out=>by
   have h1:=al3 r (agn out x)
   have h2:=alb out x
   simp only [List.foldl_cons,List.length_cons];omega
theorem ahL (l:List Qa):(Xr l).length≤l.length:=by simpa [Xr] using al3 l []
theorem apG {l:List Qa} {k:Nat} {x:Qa} (h:l[k]? = some x):Xr (l.take (k + 1)) = agn (Xr (l.take k)) x:=by
 rw [Xr,Xr,zB,h,Option.toList_some,ZE];rfl
def noS (l out:List Qa) (k:Nat):St:=QS [(0,.sl 11 (l.map Qa.v)),(6,.hd 0 0 out.length),(7,V.int k)] [(0,.buf true 11 (out.map Qa.v))] 1
def wI:=qd Proofs.Tryz.f21 []
def aaO (Γ:Env) (f:Nat):Prop:=(∀ (l:List Qa) (hl:l.length≤400) (hz:∀ x∈l,x.Sz) (hq:∀ x∈l,YI x = true),EvE Γ f [.sl 11 (l.map Qa.v)] 11 ((Xr l).map Qa.v))
attribute [local go_sem] QS in
theorem akz {Γ:Env} {f:Nat} (h:Has Γ.P f 38 wI.1.1.ac wI.1.2) (z0:vE Γ 61) (z1:abO Γ 62):aaO Γ f:=by
 intro l hl hz hq
 refine anG h (by simp) (fun x hx=>by obtain ⟨y,_,rfl⟩:=kc.1 hx;simp only [Qa.v,Qa.cells,V.noSl,Wi,and_self]) fun C hC hm=>?_
 subst hC;simp only [wI,qd,DC.ac]
 have hal:(l.map Qa.v).length = l.length:=zb _
 refine zgo ?_;repeat' first|exact zt|apply zan|intro hc
 refine Ji (ι:=Nat) (fun k=>k≤l.length) (fun k=>[(4,V.int k)]) (fun k=>l.length - k) 0 (by omega) (zJ _) zol zlt zet fun k hk K' hL=>?_
 simp only [ovT,Xs,Nat.reduceEqDiff,reduceIte]
 rcases hdr:l.drop k with _|⟨x,r⟩
 rotate_left
 ·obtain ⟨hk',hget,hr⟩:=Qq hdr
  have hw:=Qe (k:=k) (by omega)
  have e1:decide ((k:Int) < (l.length:Int)) = true:=by simp;omega
  have vx:(l.map Qa.v)[k]? = some x.v:=by rw [zo,hget];rfl
  have hm:=zq hget
  have p1:=(z0 x (hz x hm) (hq x hm)).b
  have n0:((0:Int) != 0) = false:=by decide
  simp only [Qa.v,Qa.cells] at vx p1
  (have zx:=za e1 (za hal (za hw (za vx n0))));refine zgo ?_;repeat' first|exact zt|apply zan|intro hc
  all_goals exact hL _ (k + 1) zet (by omega) (by omega) zoe
 have hkl:=Qu hdr
 have e1:decide ((k:Int) < (l.length:Int)) = false:=by simp;omega
 clear hL
 (have zx:=za e1 hal);refine zgo ?_;repeat' first|exact zt|apply zan|intro hc
 refine Qj (ι:=Nat) (fun k=>k≤l.length) (fun k=>noS l (Xr (l.take k)) k) (fun k=>l.length - k) 0 (zJ _) (Qd [(0,7000)]) (Qh [(0,7000)] (by simp only [go_sem,zwl,noS,Xr,List.take_zero,List.foldl_nil,List.length_nil]<;>exact zcc) (by simp only [go_sem,zwl,noS,Xr,List.take_zero,List.foldl_nil,zH]<;>exact zcc) (by simp [noS,Qd]) (by simp [noS];omega) (by omega)) fun k hk K' hL=>?_
 have hnk:=ahL (l.take k)
 rw [zU,Zg hk] at hnk
 rcases hdr:l.drop k with _|⟨x,r⟩
 ·have hkl:=Qu hdr
  have e1:decide ((k:Int) < (l.length:Int)) = false:=by simp;omega
  obtain rfl:k = l.length:=by omega
  rw [zG] at hnk ⊢
  simp only [noS]
  have htl:List.take (Xr l).length ((Xr l).map Qa.v) = (Xr l).map Qa.v:=zi (by simp)
  have hmm:(Xr l).length = ((Xr l).map Qa.v).length:=(zb _).symm
  (have zx:=za e1 (za hal htl));refine zgo ?_;repeat' first|exact zt|apply zan|intro hc
  all_goals first|(refine axE (xs:=(Xr l).map Qa.v) _ _ rfl ?_ ?_<;>first|exact hmm|exact hmm.symm|rfl|(simp;done))
 obtain ⟨hk',hget,hr⟩:=Qq hdr
 have hw:=Qe (k:=k) (by omega)
 have e1:decide ((k:Int) < (l.length:Int)) = true:=by simp;omega
 have vx:(l.map Qa.v)[k]? = some x.v:=by rw [zo,hget];rfl
 have hsu:=apG hget
 have hsl:=alb (Xr (l.take k)) x
 simp only [noS]
 rcases hd:as3 (Xr (l.take k)) x with _|_
 ·have gW:=z1.2 (Xr (l.take k)) x (by omega) hd
  have hst:Xr (l.take (k + 1)) = ahV (Xr (l.take k)) x:=by rw [hsu,agn,hd];rfl
  have hil:=aoB (Xr (l.take k)) x
  have e2:decide ((((ahV (Xr (l.take k)) x).length:Nat):Int) > 400) = false:=by simp;omega
  have hml:((ahV (Xr (l.take k)) x).map Qa.v).length = (ahV (Xr (l.take k)) x).length:=zb _
  have hol:((Xr (l.take k)).map Qa.v).length = (Xr (l.take k)).length:=zb _
  have htl:List.take (Xr (l.take k)).length ((Xr (l.take k)).map Qa.v) = (Xr (l.take k)).map Qa.v:=zi (by simp)
  generalize ahV (Xr (l.take k)) x = ins at *
  generalize Xr (l.take k) = out at *
  simp only [Qa.v,Qa.cells] at vx gW
  (have zx:=za e1 (za e2 (za hal (za hw (za vx (za hml (za hol htl)))))));refine zgo ?_;repeat' first|exact zt|apply zan|intro hc
  all_goals exact hL _ (k + 1) (Qd [(0,9001)]) (by omega) (by omega) (Qh [(0,9001)] (by simp only [go_sem,zwl,noS,hst,hal]<;>exact zcc) (by simp only [go_sem,zwl,noS,hst]<;>exact zcc) (by simp [noS,Qd]) (by simp [noS];omega) (by omega))
 ·have gX:=z1.1 (Xr (l.take k)) x (by omega) hd
  have hst:Xr (l.take (k + 1)) = Xr (l.take k):=by rw [hsu,agn,hd];rfl
  have e2:decide ((((Xr (l.take k)).length:Nat):Int) > 400) = false:=by simp;omega
  have hol:((Xr (l.take k)).map Qa.v).length = (Xr (l.take k)).length:=zb _
  generalize Xr (l.take k) = out at *
  simp only [Qa.v,Qa.cells] at vx gX
  repeat' (first|(refine zsk ?_;intro K' hK)|refine zsp ?_|(refine zsc ?_ ?_<;>intro hc<;>first|exact znh|try simp only [znz] at hc)|simp (maxSteps:=1000000) only [go_sem,QS,e1,e2,hal,hw,vx,hol,Int.toNat_natCast]|(refine hK _ ?_;clear hK K')|apply zan|(apply apb;(focus exact rfl);(focus first|exact gX);(focus exact rfl);(focus exact rfl);(focus (first|exact rfl|(simp;done))))|(apply QA;(focus first|exact (z0 _ zsd zsd).b))|exact zsq|fail)
  all_goals exact hL _ (k + 1) (Qd []) (by omega) (by omega) (Qh [] (by simp only [go_sem,zwl,noS,hst,hal]<;>exact zcc) (by simp only [go_sem,zwl,noS,hst]<;>exact zcc) (by simp [noS,Qd]) (by simp [noS]) (by omega))
def yV (l:List Int):Nat→Nat→List Qa×Nat
 | 0,k=>([],k)
 | n + 1,k=>((acK l k).1 :: (yV l n (acK l k).2).1,(yV l n (acK l k).2).2)
def adM (l:List Int) (k:Nat) (most:Int):List Qa×Nat :=
 (Xr (yV l (Qt l k (most + 1)).1.toNat (Qt l k (most + 1)).2).1,(yV l (Qt l k (most + 1)).1.toNat (Qt l k (most + 1)).2).2)
theorem anv {l:List Int} {k:Nat} (h:k≤l.length):(Yp l k).2≤l.length:=adn (Q7 (aaV (Q7 (aaV (adn (Q7 h))))))
theorem at0 {l:List Int} {f:Qa} {k:Nat} (h:k≤l.length):(asl l f k).2≤l.length:=by
 unfold asl
 (repeat' split)<;>first|exact Q7 h|exact Q7 (aaV h)|exact adn h
theorem aoM {l:List Int} {k:Nat} (h:k≤l.length):(acK l k).2≤l.length:=at0 (anv h)
theorem akI {l:List Int}:∀ (n:Nat) {k:Nat},k≤l.length→(yV l n k).2≤l.length
 | 0,_,h=>h
 | n + 1,_,h=>akI n (aoM h)
theorem ain (l:List Int):∀ (n k:Nat),(yV l n k).1.length = n
 | 0,_=>rfl
 | n + 1,k=>by rw [yV,List.length_cons,ain l n]
theorem abr {l:List Int} {P:Qa→Prop} (h:∀ k,k≤l.length→P (acK l k).1):∀ (n:Nat) {k:Nat},k≤l.length→∀ x∈(yV l n k).1,P x
 | 0,_,_,_,hx=>by cases hx
 | n + 1,k,hk,x,hx=>by
   rcases zw.1 hx with rfl|hx
   ·exact h k hk
   ·exact abr h n (aoM hk) x hx
theorem ajQ (l:List Int):∀ (n k:Nat),yV l (n + 1) k = ((yV l n k).1++[(acK l (yV l n k).2).1],(acK l (yV l n k).2).2)
 | 0,_=>rfl
 | n + 1,k=>by
   have:=ajQ l n (acK l k).2
   rw [yV,this];rfl
theorem axv:QP [97] = true∧QP [98] = true∧QP [99] = true∧QP [115] = true∧QP [116] = true:=by decide +kernel
theorem anu (l:List Int) (k:Nat):∃ h s,(Yp l k).1 = ⟨(Yp l k).1.src,h,(Yp l k).1.mach,(Yp l k).1.day,(Yp l k).1.conf,(Yp l k).1.kind,s,0,0,0,[]⟩∧(h = [97]∨h = [98]∨h = [99])∧(s = [115]∨s = [116]) ∧
  (1≤(Yp l k).1.src∧(Yp l k).1.src≤7)∧(0≤(Yp l k).1.mach∧(Yp l k).1.mach≤3)∧(0≤(Yp l k).1.day∧(Yp l k).1.day≤11)∧(1≤(Yp l k).1.conf∧(Yp l k).1.conf≤100)∧(1≤(Yp l k).1.kind∧(Yp l k).1.kind≤8):=by
 have r1:=Qz (l:=l) (k:=k) (n:=7) (by omega) (by omega)
 simp only [Yp]
 generalize Qt l k 7 = x1 at *
 have r2:=ahk (l:=l) (k:=x1.2) (xs:=[[97],[98],[99]]) (by decide) (by decide)
 generalize aa4 l x1.2 [[97],[98],[99]] = x2 at *
 have r3:=xp (l:=l) (k:=x2.2) (xs:=[0,1,2,0,3]) (by decide) (by decide)
 generalize ofD l x2.2 [0,1,2,0,3] = x3 at *
 have r4:=Qz (l:=l) (k:=x3.2) (n:=12) (by omega) (by omega)
 generalize Qt l x3.2 12 = x4 at *
 have r5:=xp (l:=l) (k:=x4.2) (xs:=[90,50,100,1]) (by decide) (by decide)
 generalize ofD l x4.2 [90,50,100,1] = x5 at *
 have r6:=Qz (l:=l) (k:=x5.2) (n:=8) (by omega) (by omega)
 generalize Qt l x5.2 8 = x6 at *
 have r7:=ahk (l:=l) (k:=x6.2) (xs:=[[115],[116]]) (by decide) (by decide)
 generalize aa4 l x6.2 [[115],[116]] = x7 at *
 simp only [zw,zD,or_false] at r2 r3 r5 r7
 exact ⟨x2.1,x7.1,rfl,r2,r7,by omega,by omega,by omega,by omega,by omega⟩
theorem aqT:Qx 1 0 > 0∧Qx 2 0 > 0∧Qx 5 1024 > 0∧Qx 5 2048 > 0∧Qx 14 128 > 0∧(XK 5).kind = 2:=by decide +kernel
theorem aph {c:Int} (h:0≤c∧c < 4):Qx (awW c).1 (awW c).2 > 0:=by
 obtain ⟨s1,s2,s3,s4,s5,_⟩:=aqT
 obtain rfl|rfl|rfl|rfl:c = 0∨c = 1∨c = 2∨c = 3:=by omega
 ·exact s1
 ·exact s2
 ·exact s3
 ·exact s5
theorem ahe (l:List Int) (k:Nat):YI (acK l k).1 = true∧(acK l k).1.Sz:=by
 obtain ⟨h,s,he,hh,hs,h1,h2,h3,h4,h5⟩:=anu l k
 obtain ⟨n1,n2,n3,n4,n5⟩:=axv
 obtain ⟨_,_,s3,s4,_,c5⟩:=aqT
 rw [acK]
 generalize (Yp l k).2 = q
 revert he h1 h2 h3 h4 h5
 generalize (Yp l k).1 = f
 intro he h1 h2 h3 h4 h5
 have hn:QP h = true:=by rcases hh with rfl|rfl|rfl<;>assumption
 have sn:QP s = true:=by rcases hs with rfl|rfl<;>assumption
 have hl:h.length < 2 ^ 60:=by rcases hh with rfl|rfl|rfl<;>decide
 have sl:s.length < 2 ^ 60:=by rcases hs with rfl|rfl<;>decide
 obtain ⟨src,host,mach,day,conf,kind,subj,alg,bits,num,text⟩:=f
 simp only [Qa.mk.injEq,true_and] at he
 obtain ⟨rfl,rfl,rfl,rfl,rfl,rfl⟩:=he
 dsimp only at h1 h2 h3 h4 h5
 have head:∀ g:Qa,g.src = src→g.host = host→g.mach = mach→g.day = day→g.conf = conf→g.subj = subj→g.text.length < 2 ^ 60→wB g = true→YI g = true∧g.Sz:=by
  intro g e1 e2 e3 e4 e5 e6 e7 e8
  refine ⟨?_,by rw [e2];exact hl,by rw [e6];exact sl,e7⟩
  rw [YI,e1,e2,e3,e4,e5,e6,e8,hn,sn]
  simp;omega
 have r4:=Qz (l:=l) (k:=q) (n:=4) (by omega) (by omega)
 have r5:=Qz (l:=l) (k:=q) (n:=5) (by omega) (by omega)
 have r3:=Qz (l:=l) (k:=q) (n:=3) (by omega) (by omega)
 have ro:=xp (l:=l) (k:=q) (xs:=[1024,2048]) (by decide) (by decide)
 have rp:=Qz (l:=l) (k:=(ofD l q [1024,2048]).2) (n:=3) (by omega) (by omega)
 have rw_:=ahk (l:=l) (k:=q) (xs:=[[97],[98]]) (by decide) (by decide)
 have us:=aph r4
 simp only [zw,zD,or_false] at ro rw_
 have hk:kind = 1∨kind = 2∨kind = 3∨kind = 4∨kind = 5∨kind = 6∨kind = 7∨kind = 8:=by omega
 have wn:QP (aa4 l q [[97],[98]]).1 = true:=by rcases rw_ with h|h<;>rw [h]<;>assumption
 have wl:(aa4 l q [[97],[98]]).1.length < 2 ^ 60:=by rcases rw_ with h|h<;>rw [h]<;>decide
 have os:Qx 5 (ofD l q [1024,2048]).1 > 0:=by rcases ro with h|h<;>rw [h]<;>assumption
 rcases hk with rfl|rfl|rfl|rfl|rfl|rfl|rfl|rfl
 all_goals
  simp only [asl,Int.reduceEq,or_true,true_or,or_self,if_true,if_false]
  refine head _ rfl rfl rfl rfl rfl rfl ?_ ?_
  ·first|exact wl|(show (0:Nat) < 2 ^ 60;decide)
  ·simp only [wB,anc,Int.reduceEq,or_true,true_or,or_self,if_true,if_false]
   first|(simp [us];done)|(simp [os,c5];omega)|(simp [wn];done)|(simp;omega)
theorem arz {α:Type} {p:α→Bool} {q:α→α→Bool} (tr:∀ a b c,q a b = true→q b c = true→q a c = true) (l:List α):∀ k,k≤l.length→(okP p q l k = true↔(∀ x∈l.take k,p x = true)∧(l.take k).Pairwise fun a b=>q a b = true)
 | 0,_=>by simp [aor]
 | k + 1,h=>by
   obtain ⟨x,hx⟩:∃ x,l[k]? = some x:=⟨_,zd (by omega)⟩
   rw [adD,hx,zB,hx,Option.toList_some,Za]
   dsimp only
   rw [zA,arz tr l k (by omega),zA,kC]
   constructor
   ·rintro ⟨⟨h1,h2⟩,h3,h4⟩
    refine ⟨fun y hy=>(zP.1 hy).elim (h1 y) (fun e=>by rw [zy.1 e];exact h3),h2,List.pairwise_singleton _ _,fun y hy z hz=>?_⟩
    rw [zy.1 hz]
    rcases k with _|j
    ·simp at hy
    ·obtain ⟨u,hu⟩:∃ u,l[j]? = some u:=⟨_,zd (by omega)⟩
     rw [show j + 1 - 1 = j from rfl,hu] at h4
     have h4:q u x = true:=by rcases h4 with h4|h4;simp at h4;exact h4
     rw [zB,hu,Option.toList_some,Za] at h2
     rw [zB,hu,Option.toList_some] at hy
     rcases zP.1 hy with hy|hy
     ·exact tr y u x (h2.2.2 y hy u (zy.2 rfl)) h4
     ·rw [zy.1 hy];exact h4
   ·rintro ⟨h1,h2,_,h3⟩
    refine ⟨⟨fun y hy=>h1 y (Zm _ hy),h2⟩,h1 x (ZB _ (zy.2 rfl)),?_⟩
    rcases k with _|j
    ·exact .inl rfl
    ·obtain ⟨u,hu⟩:∃ u,l[j]? = some u:=⟨_,zd (by omega)⟩
     rw [show j + 1 - 1 = j from rfl,hu]
     exact .inr (h3 u (by rw [zB,hu];exact ZB _ (zy.2 rfl)) x (zy.2 rfl))
theorem aav:Cm ags:=by
 have h0:Cm fun _ _:Qa=>(0:Int):=⟨fun _ _=>rfl,fun _ _ _ _ _=>Int.le_refl _,fun _ _ _ _ _ _=>rfl⟩
 exact (amp.by Qa.host).lex ((aaY.by Qa.mach).lex ((aaY.by Qa.day).lex ((amp.by Qa.subj).lex ((aaY.by Qa.kind).lex ((aaY.by Qa.alg).lex ((aaY.by Qa.bits).lex ((aaY.by Qa.num).lex ((amp.by Qa.text).lex ((aaY.by Qa.src).lex ((aaY.by Qa.conf).lex h0))))))))))
theorem aou (a b c:Qa) (h1:ltF a b = true) (h2:ltF b c = true):ltF a c = true:=by
 simp only [ltF,zC] at *
 have t:=aav.tr a b c (by omega) (by omega)
 have z:=aav.ze a b c (by omega) (by omega)
 omega
theorem ahK (l:List Qa):arE l = true↔(∀ x∈l,YI x = true)∧l.Pairwise fun a b=>ltF a b = true:=by
 rw [arE,arz aou l _ (zj _),zG]
theorem alr (l:List Qa) (x:Qa):∀ k,k≤l.length→(∀ i,akZ l x k≤i→i < k→∃ y,l[i]? = some y∧ags y x > 0)∧(∀ j,akZ l x k = j + 1→∃ y,l[j]? = some y∧¬ ags y x > 0)
 | 0,_=>⟨fun i _ h=>absurd h (ZD _),fun j h=>by cases h⟩
 | k + 1,hk=>by
   obtain ⟨y,hy⟩:∃ y,l[k]? = some y:=⟨_,zd (by omega)⟩
   rw [akZ,hy]
   dsimp only
   by_cases h:ags y x > 0
   ·rw [if_pos h]
    obtain ⟨h1,h2⟩:=alr l x k (by omega)
    refine ⟨fun i hi hlt=>?_,h2⟩
    by_cases e:i = k
    ·subst e;exact ⟨y,hy,h⟩
    ·exact h1 i hi (by omega)
   ·rw [if_neg h]
    exact ⟨fun i h1 h2=>by omega,fun j hj=>by
     have e:k = j:=by omega
     subst e
     exact ⟨y,hy,h⟩⟩
theorem anp {l:List Qa} {x:Qa} (hs:l.Pairwise fun a b=>ltF a b = true) (hd:as3 l x = false):(ahV l x).Pairwise fun a b=>ltF a b = true:=by
 obtain ⟨h1,h2⟩:=alr l x l.length (zj _)
 have hple:=am5 l x l.length
 rw [ahV]
 rw [as3] at hd
 generalize akZ l x l.length = p at *
 have hb:∀ y∈l.take p,ltF y x = true:=by
  intro y hy
  rcases p with _|j
  ·simp at hy
  ·obtain ⟨z,hz,hn⟩:=h2 j rfl
   dsimp only at hd
   rw [hz] at hd
   dsimp only at hd
   have hzx:ltF z x = true:=by simp at hd;simp only [ltF,zC];omega
   have hs2:=hs.sublist (List.take_sublist (j + 1) l)
   rw [zB,hz,Option.toList_some] at hs2 hy
   rw [Za] at hs2
   rcases zP.1 hy with hy|hy
   ·exact aou y z x (hs2.2.2 y hy z (zy.2 rfl)) hzx
   ·rw [zy.1 hy];exact hzx
 have ha:∀ y∈l.drop p,ltF x y = true:=by
  intro y hy
  obtain ⟨i,hi⟩:=List.mem_iff_getElem?.1 hy
  rw [kI] at hi
  obtain ⟨z,hz,hp⟩:=h1 (p + i) (by omega) (zl.1 hi).1
  rw [hi] at hz
  cases hz
  have:=aav.neg y x
  simp only [ltF,zC];omega
 rw [Za]
 refine ⟨hs.sublist (List.take_sublist _ _),Zj.2 ⟨ha,hs.sublist (List.drop_sublist _ _)⟩,fun y hy z hz=>?_⟩
 rcases zw.1 hz with rfl|hz
 ·exact hb y hy
 ·exact aou y x z (hb y hy) (ha z hz)
theorem atP {l:List Qa} {x y:Qa} (h:y∈ahV l x):y = x∨y∈l:=by
 rw [ahV] at h
 rcases zP.1 h with h|h
 ·exact .inr (ky h)
 ·rcases zw.1 h with h|h
  ·exact .inl h
  ·exact .inr (kP h)
theorem aoL {P:Qa→Prop}:∀ (l out:List Qa),(∀ x∈l,P x)→(∀ x∈out,P x)→(out.Pairwise fun a b=>ltF a b = true)→(∀ x∈l.foldl agn out,P x)∧(l.foldl agn out).Pairwise fun a b=>ltF a b = true
 | [],out,_,h2,h3=>⟨h2,h3⟩
 | x :: r,out,h1,h2,h3=>by
   rw [List.foldl_cons]
   refine aoL r _ (fun y hy=>h1 y (kp _ hy)) ?_ ?_
   ·rw [agn];split
    ·exact h2
    ·intro y hy
     rcases atP hy with rfl|hy
     ·exact h1 _ kD
     ·exact h2 y hy
   ·rw [agn];split
    ·exact h3
    ·rename_i hd;exact anp h3 (by simpa using hd)
theorem aot {P:Qa→Prop} {l:List Qa} (h:∀ x∈l,P x):(∀ x∈Xr l,P x)∧(Xr l).Pairwise fun a b=>ltF a b = true:=aoL l [] h (by simp) List.Pairwise.nil
theorem apH {l:List Qa} (h:∀ x∈l,YI x = true) (hl:l.length≤400):wc (Xr l) = true:=by
 rw [wc,zA,ahK,zC]
 have:=ahL l
 exact ⟨aot h,by omega⟩
theorem ask {l:List Int} {k:Nat} {most:Int} (hk:k≤l.length) (hm:0≤most∧most≤100) :
  (∀ x∈(adM l k most).1,x.Sz)∧wc (adM l k most).1 = true∧(adM l k most).1.length≤most.toNat∧(adM l k most).2≤l.length:=by
 have hr:=Qz (l:=l) (k:=k) (n:=most + 1) (by omega) (by omega)
 have hq:=Q7 (n:=most + 1) hk
 rw [adM]
 generalize Qt l k (most + 1) = x at *
 have hlen:=ain l x.1.toNat x.2
 have hn:=ahL (yV l x.1.toNat x.2).1
 refine ⟨(aot (abr (fun k _=>(ahe l k).2) _ hq)).1,apH (abr (fun k _=>(ahe l k).1) _ hq) (by omega),by dsimp only;omega,akI _ hq⟩
def fnS (l:List Int) (m:Nat) (x:List Qa×Nat):St:=QS [(0,.ptr 0 0),(5,.hd 1 0 x.1.length),(6,V.int m)] [(0,.box true (Q1 l x.2)),(1,.buf true 11 (x.1.map Qa.v))] 2
def KL:=qd Proofs.Tryz.f7 []
def yw (Γ:Env) (f:Nat):Prop:=(∀ (l:List Int) (k:Nat) (most:Int) (hl:l.length≤400) (hk:k≤l.length) (hm:0≤most∧most≤100),ayi Γ f [V.int most] (Q1 l k) 11 ((adM l k most).1.map Qa.v) (Q1 l (adM l k most).2))
attribute [local go_sem] Q1 QS in
theorem agF {Γ:Env} {f:Nat} (h:Has Γ.P f 28 KL.1.1.ac KL.1.2) (z0:JH Γ 8) (z1:xY Γ 20) (z2:aaO Γ 21):yw Γ f:=by
 intro l k most hl hk hm
 refine amg h (by simp) (QG _ _) (QG _ _) (by simp only [V.closed,Qb,and_self]) fun C hC hm=>?_
 subst hC;simp only [KL,qd,DC.ac]
 have n1:=z0 l k (most + 1) hl hk
 have r1:=Qz (l:=l) (k:=k) (n:=most + 1) (by omega) (by omega)
 have k1:=Q7 (n:=most + 1) hk
 have hwm:IntKind.i64.wrap (most + 1) = most + 1:=Jc (by omega) (by omega)
 simp only [adM]
 generalize Qt l k (most + 1) = x1 at *
 obtain ⟨a1,q1⟩:=x1
 simp only at n1 r1 k1 ⊢
 obtain ⟨n,rfl⟩:∃ n:Nat,a1 = n:=⟨a1.toNat,by omega⟩
 rw [Int.toNat_natCast]
 simp only [Q1,zE,zH] at n1
 (have zx:=hwm);refine zgo ?_;repeat' first|exact zt|apply zan|intro hc
 refine Qj (ι:=Nat) (fun j=>j≤n) (fun j=>fnS l (n - j) (yV l j q1)) (fun j=>n - j) 0 (zJ _) (Qd [(1,1001)]) (Qh [(1,1001)] (by simp only [go_sem,zwl,fnS,yV,List.length_nil]<;>exact zcc) (by simp only [go_sem,zwl,fnS,yV,Q1,zH,zE]<;>exact zcc) (by simp [fnS,Qd]) (by simp [fnS];omega) (by omega)) fun j hj K' hL=>?_
 have hlen:=ain l j q1
 have hle:=akI (l:=l) j k1
 rcases ZM j n with hlt|hge
 rotate_left
 ·obtain rfl:j = n:=by omega
  have e1:decide (((j - j:Nat):Int) > 0) = false:=by simp
  have gN:=z2 (yV l j q1).1 (by omega) (abr (fun k _=>(ahe l k).2) _ k1) (abr (fun k _=>(ahe l k).1) _ k1)
  have htl:List.take (yV l j q1).1.length ((yV l j q1).1.map Qa.v) = (yV l j q1).1.map Qa.v:=zi (by simp)
  simp only [fnS]
  generalize yV l j q1 = x at *
  have hnl:((Xr x.1).map Qa.v).length = (Xr x.1).length:=zb _
  repeat' (first|(refine zsk ?_;intro K' hK)|refine zsp ?_|(refine zsc ?_ ?_<;>intro hc<;>first|exact znh|try simp only [znz] at hc)|simp (maxSteps:=1000000) only [go_sem,QS,e1,htl,Q1]|(refine hK _ ?_;clear hK K')|apply zan|(apply axX;(focus first|exact gN))|exact zsq|fail)
  all_goals first|(refine awh (xs:=(Xr x.1).map Qa.v) _ _ rfl rfl rfl rfl (QG _ _) ?_<;>first|rfl|exact hnl|exact hnl.symm|(simp;done))
 ·have e1:decide (((n - j:Nat):Int) > 0) = true:=by simp;omega
  have hw:IntKind.i64.wrap (((n - j:Nat):Int) - 1) = ((n - (j + 1):Nat):Int):=by rw [Jc (by omega) (by omega)];omega
  have hsn:=ajQ l j q1
  have nF:=z1 l (yV l j q1).2 hl hle
  simp only [fnS]
  generalize yV l j q1 = x at *
  obtain ⟨out,q⟩:=x
  simp only at hlen hle hsn nF ⊢
  generalize acK l q = y at *
  obtain ⟨f,q2⟩:=y
  simp only [Qa.v,Qa.cells,Q1,zE,zH] at nF hsn
  have hol:(out.map Qa.v).length = out.length:=zb _
  have htl:List.take out.length (out.map Qa.v) = out.map Qa.v:=zi (by simp)
  (have zx:=za e1 (za hw (za hol htl)));refine zgo ?_;repeat' first|exact zt|apply zan|intro hc
  all_goals exact hL _ (j + 1) (Qd [(1,6002)]) (by omega) (by omega) (Qh [(1,6002)] (by simp only [go_sem,zwl,fnS,hsn,zv,List.length_cons,List.length_nil]<;>exact zcc) (by simp only [go_sem,zwl,fnS,hsn,Q1,kj,zE,zH,Qa.v,Qa.cells]<;>exact zcc) (by simp [fnS,Qd]) (by simp [fnS];omega) (by omega))
theorem asr {x y:Qa} (h:eqN x y = true):x = y:=by
 obtain ⟨a1,a2,a3,a4,a5,a6,a7,a8,a9,a10,a11⟩:=x
 obtain ⟨b1,b2,b3,b4,b5,b6,b7,b8,b9,b10,b11⟩:=y
 simpa [eqN] using h
theorem avB {a b:Qa} (h:ags a b = 0):a = b:=by
 have f0:∀ l:List Int,Yr l = 0→∀ x∈l,x = 0:=by
  intro l
  induction l with
  | nil=>intro _ x hx;cases hx
  | cons y r ih =>
    intro h x hx
    rw [Yr] at h
    split at h
    ·rename_i hy;exact absurd h hy
    ·rename_i hy
     rcases zw.1 hx with rfl|hx
     ·omega
     ·exact ih h x hx
 have h:=f0 _ h
 obtain ⟨a1,a2,a3,a4,a5,a6,a7,a8,a9,a10,a11⟩:=a
 obtain ⟨b1,b2,b3,b4,b5,b6,b7,b8,b9,b10,b11⟩:=b
 simp only [avA,zw,zD,or_false,forall_eq_or_imp,forall_eq] at h
 obtain ⟨h1,h2,h3,h4,h5,h6,h7,h8,h9,h10,h11⟩:=h
 have:=aeW h1;have:=ym h2;have:=ym h3;have:=aeW h4;have:=ym h5;have:=ym h6;have:=ym h7;have:=ym h8;have:=aeW h9;have:=ym h10;have:=ym h11
 subst_vars;rfl
theorem alZ:∀ (l:List Qa) (p:Qa),(p :: l).Pairwise (fun x y=>ltN y x = false)→(p :: yg eqN p l).Pairwise fun a b=>ltF a b = true
 | [],p,_=>by simp [yg]
 | x :: r,p,h=>by
   have h1:=Zj.1 h
   have ih:=alZ r x h1.2
   rw [yg]
   by_cases he:eqN x p = true
   ·rw [if_pos he]
    have:=asr he
    subst this
    exact ih
   ·rw [if_neg he]
    have hx:ltF p x = true:=by
     have h2:=h1.1 x kD
     have h3:=aav.neg p x
     simp only [ltN,zF] at h2
     rw [ltF,zC]
     have h4:ags p x≠0:=fun h0=>by
      have:=avB h0
      subst this
      exact he (by simp [eqN])
     omega
    refine Zj.2 ⟨fun z hz=>?_,ih⟩
    rcases zw.1 hz with rfl|hz
    ·exact hx
    ·exact aou _ _ _ hx ((Zj.1 ih).1 z hz)
theorem abs {l:List Qa} {x:Qa}:x∈acj l↔x∈l:=by
 rw [acj,ash (fun x y=>asr),adL]
theorem aqg {l:List Qa} (hc:∀ x∈l,YI x = true) (hl:l.length≤12):wc (acj l) = true:=by
 have h12:=akL l
 have hs:=abj (lt:=ltN) (fun x y z h1 h2=>by
  simp only [ltN,zF] at *
  have n1:=aav.neg x y
  have n2:=aav.neg y z
  have n3:=aav.neg x z
  have:=aav.tr x y z (by omega) (by omega)
  omega) (fun x y h=>by
  simp only [ltN,zC,zF] at *
  have:=aav.neg x y
  omega) l
 rw [wc,zA,ahK,zC]
 refine ⟨⟨fun x hx=>hc x (abs.1 hx),?_⟩,by omega⟩
 rw [acj]
 rcases hg:Wo ltN l with _|⟨x,r⟩
 ·exact List.Pairwise.nil
 ·rw [hg] at hs
  exact alZ r x hs
theorem arZ {lt:List UInt8→List UInt8→Bool} (l:List (List UInt8)) (x:List UInt8):x∈ae5 lt l x:=by
 unfold ae5
 split
 ·rename_i h
  unfold Ux at h
  split at h
  ·rename_i y hy
   have:=eq_of_beq h
   subst this
   exact zq hy
  ·cases h
 ·simp
theorem atQ {lt:List UInt8→List UInt8→Bool} {l:List (List UInt8)} {x y:List UInt8} (h:y∈l):y∈ae5 lt l x:=by
 unfold ae5
 split
 ·exact h
 ·rw [← kh (bsI lt l x) l] at h
  rcases zP.1 h with h|h
  ·exact Zm _ h
  ·exact ZB _ (kp _ h)
theorem ami {l:List Qa} {p:List Nat} (hp:PW p):∀ k,k≤l.length→(∀ e∈Xw l p k,∀ i∈e.finds,∀ x,l[i]? = some x→x.host∈e.hosts)∧∀ j,j < k→∃ e∈Xw l p k,j∈e.finds
 | 0,_=>⟨fun e he=>by simp [Xw] at he,fun j hj=>by omega⟩
 | k + 1,hk=>by
   obtain ⟨ih,ic⟩:=ami (l:=l) hp k (by omega)
   have hI:=vV (l:=l) hp k (by omega)
   have hlk:l[k]? = some l[k]:=zd (by omega)
   rw [Xw,hlk]
   dsimp only
   generalize hf:l[k] = f at *
   generalize Xw l p k = es at *
   have hu:∀ y:JG,(∀ i∈y.finds,∀ x,l[i]? = some x→x.host∈y.hosts)→∀ i∈(Xx k f y).finds,∀ x,l[i]? = some x→x.host∈(Xx k f y).hosts:=by
    intro y hy i hi x hx
    simp only [Xx,Jh] at hi ⊢
    rcases zP.1 hi with hi|hi
    ·exact atQ (hy i hi x hx)
    ·rw [zy.1 hi,hlk] at hx
     cases hx
     exact arZ _ _
   have hkf:∀ y:JG,k∈(Xx k f y).finds:=fun y=>by simp [Xx,Jh]
   have hof:∀ (y:JG) (j:Nat),j∈y.finds→j∈(Xx k f y).finds:=fun y j h=>by simp only [Xx,Jh];exact Zm _ h
   rw [akG]
   split
   ·refine ⟨fun e he=>?_,fun j hj=>?_⟩
    ·rcases zP.1 he with he|he
     ·exact ih e he
     ·rw [zy.1 he]
      exact hu _ (fun i hi=>by simp at hi)
    ·by_cases hjk:j = k
     ·subst hjk
      exact ⟨_,ZB _ (zy.2 rfl),hkf _⟩
     ·obtain ⟨e,he,h⟩:=ic j (by omega)
      exact ⟨e,Zm _ he,h⟩
   ·rename_i hr
    obtain ⟨a,y,h1,h2,h3⟩:=hI.find hp hr
    rw [h1]
    dsimp only
    rw [h2]
    dsimp only
    have hal:=(zl.1 h2).1
    have hm:=zq h2
    refine ⟨fun e he=>?_,fun j hj=>?_⟩
    ·rcases Zh he with he|rfl
     ·exact ih e he
     ·exact hu y (ih y hm)
    ·have hself:Xx k f y∈es.set a (Xx k f y):=zq (Zf hal)
     by_cases hjk:j = k
     ·subst hjk
      exact ⟨_,hself,hkf y⟩
     ·obtain ⟨e,he,h⟩:=ic j (by omega)
      obtain ⟨c,hc,rfl⟩:=kK he
      by_cases hca:c = a
      ·subst hca
       rw [zd hc] at h2
       cases h2
       exact ⟨_,hself,hof _ _ h⟩
      ·refine ⟨es[c],zq (i:=c) ?_,h⟩
       rw [ZG (Ne.symm hca)]
       exact zd hc
def asZ (l:List Qa) (o:Qa) (m:PM):Prop:=∃ a v:Nat,m.2[a]? = some v∧l[v]? = some o∧m.1[a]? = some (Wl o)
theorem arS {l:List Qa} {day age:Int} {m:PM} {n i:Nat} {o:Qa} (hok:af2 l m n) (ho:o.day = day) (hM:∀ x∈l,x.conf≤o.conf) (h:asZ l o m):asZ l o (ap6 l day age m i):=by
 obtain ⟨a,v,h1,h2,h3⟩:=h
 obtain ⟨ks,vs⟩:=m
 simp only at h1 h3
 rw [ap6]
 rcases hf:l[i]? with _|f
 ·exact ⟨a,v,h1,h2,h3⟩
 dsimp only
 by_cases hr:f.day > day∨f.day < day - age
 ·rw [if_pos hr];exact ⟨a,v,h1,h2,h3⟩
 rw [if_neg hr]
 rcases hx:apS (Wl f) ks 0 with _|c
 ·refine ⟨a,v,?_,h2,?_⟩
  ·have:=(zl.1 h1).1
   simp only;rw [kf this];exact h1
  ·have:=(zl.1 h3).1
   simp only;rw [kf this];exact h3
 ·dsimp only
  rcases hg:l[vs.getD c 0]? with _|g
  ·exact ⟨a,v,h1,h2,h3⟩
  ·dsimp only
   by_cases hb:auo f g = true
   ·rw [if_pos hb]
    by_cases hca:c = a
    ·subst hca
     have e1:vs.getD c 0 = v:=by rw [zI,h1];rfl
     rw [e1,h2] at hg
     cases hg
     exfalso
     simp only [auo,kC,zC,zA,kx] at hb
     have:=hM f (zq hf)
     omega
    ·refine ⟨a,v,?_,h2,h3⟩
     simp only;rw [ZG hca];exact h1
   ·rw [if_neg hb];exact ⟨a,v,h1,h2,h3⟩
theorem arR {l:List Qa} {day age:Int} {m:PM} {n j:Nat} {o:Qa} (hok:af2 l m n) (ho:o.day = day) (ha:0≤age) (hL:∀ x∈l,o.day≤x.day→x = o) (hj:l[j]? = some o):asZ l o (ap6 l day age m j):=by
 obtain ⟨ks,vs⟩:=m
 rw [ap6,hj]
 dsimp only
 rw [if_neg (by omega)]
 have hlen:ks.length = vs.length:=hok.len
 rcases hx:apS (Wl o) ks 0 with _|c
 ·refine ⟨vs.length,j,by simp,hj,?_⟩
  rw [← hlen];simp
 ·dsimp only
  obtain ⟨_,hc2,hc3⟩:=adJ hx
  rw [Nat.sub_zero] at hc3
  have hcv:c < vs.length:=by omega
  have e1:vs.getD c 0 = vs[c]:=by rw [zI,zd hcv];rfl
  obtain ⟨g,hg,hp⟩:=hok.pt c vs[c] (zd hcv)
  rw [e1,hg]
  dsimp only
  by_cases hb:auo o g = true
  ·rw [if_pos hb]
   exact ⟨c,j,by simp only;rw [Zf hcv],hj,hc3⟩
  ·rw [if_neg hb]
   refine ⟨c,vs[c],zd hcv,?_,hc3⟩
   have hgo:g = o:=hL g (zq hg) (by
    simp only [auo,kC,zC,zA,kx] at hb
    omega)
   rw [hg,hgo]
theorem adI {l:List Qa} {day age:Int} {o:Qa} (ho:o.day = day) (ha:0≤age) (hM:∀ x∈l,x.conf≤o.conf) (hL:∀ x∈l,o.day≤x.day→x = o):∀ (fs:List Nat) (m:PM) (n:Nat),af2 l m n→(asZ l o m∨∃ j∈fs,l[j]? = some o)→asZ l o (fs.foldl (ap6 l day age) m)∧∃ n,af2 l (fs.foldl (ap6 l day age) m) n
 | [],m,n,hok,h=>⟨h.resolve_right (fun ⟨j,hj,_⟩=>by cases hj),n,hok⟩
 | i :: r,m,n,hok,h=>by
   rw [List.foldl_cons]
   refine adI ho ha hM hL r _ _ (hok.step (day:=day) (age:=age) (i:=i)) ?_
   rcases h with h|⟨j,hj,hjo⟩
   ·exact .inl (arS hok ho hM h)
   ·rcases zw.1 hj with rfl|hj
    ·exact .inl (arR hok ho ha hL hjo)
    ·exact .inr ⟨j,hj,hjo⟩
theorem apO {l:List Qa} {num day age:Int} {o:Qa} {fs:List Nat} {j:Nat} {g:Qo} (ho:o.day = day) (ha:0≤age) (hM:∀ x∈l,x.conf≤o.conf) (hL:∀ x∈l,o.day≤x.day→x = o) (hj:j∈fs) (hjo:l[j]? = some o) (hk:o.kind = 8) (hg:g∈qX l num fs day age) (h1:g.kind = 1) (h2:g.subj = o.subj) (h3:g.alg = o.alg) (h4:g.bits = o.bits):False:=by
 obtain ⟨⟨a,v,p1,p2,p3⟩,n,hok⟩:=adI ho ha hM hL fs ([],[]) 0 (af2.nil l) (.inr ⟨j,hj,hjo⟩)
 rw [qX,adL,Z5] at hg
 obtain ⟨i,hi,hg⟩:=hg
 rw [acL] at hg
 rcases hx:l[i]? with _|x
 ·rw [hx] at hg;cases hg
 rw [hx] at hg
 dsimp only at hg
 split at hg
 ·cases hg
 rename_i h8
 cases hg
 simp only [af8] at h1 h2 h3 h4
 obtain ⟨c,hc,rfl⟩:=kK hi
 obtain ⟨x',q1,q2⟩:=hok.pt c _ (zd hc)
 have q1:l[(akK l day age fs).2[c]]? = some x':=q1
 rw [hx] at q1
 cases q1
 have hpl:Wl x = Wl o:=by
  rw [Wl,if_pos (.inl h1),Wl,if_pos (.inr hk),h2,h3,h4]
 have hca:c = a:=by
  have hl:=(zl.1 q2).1
  rw [hpl,← p3] at q2
  exact (List.getElem?_inj hl hok.nd).1 q2
 subst hca
 have p1:(akK l day age fs).2[c]? = some v:=p1
 rw [zd hc] at p1
 cases p1
 rw [hx] at p2
 cases p2
 exact h8 hk
def aip (h:List UInt8) (L:List (List UInt8)):Nat:=L.countP (· == h)
def Xv (es:List JG):List (List UInt8):=es.flatMap JG.hosts
def af6 (o x:Qa):Bool:=decide (x.day≥o.day) && !eqN x o
def aj0 (l:List Qa) (gap:Int) (o:Qa):Bool:=!l.any (af6 o) && (aip o.host (Xv (Xj l gap)) == 1)
theorem awo (h:List UInt8) (L:List (List UInt8)):aip h L≤L.length:=List.countP_le_length
theorem alP {l:List Qa} {gap:Int}:∀ es:List JG,(∀ e∈es,e.hosts.length≤l.length)→(Xv es).length≤es.length * l.length
 | [],_=>by simp [Xv]
 | e :: r,h=>by
   have ih:=alP (gap:=gap) r fun x hx=>h x (kp _ hx)
   have:=h e kD
   simp only [Xv,Z9,zv,List.length_cons] at ih ⊢
   rw [zW];omega
theorem apT {es:List JG} {i:Nat} {e:JG} (h:es[i]? = some e):Xv (es.take (i + 1)) = Xv (es.take i)++e.hosts:=by
 simp [Xv,zB,h]
def alO (o:Qa):Ob:=.box true [V.int o.src,V.str o.host,V.int o.mach,V.int o.day,V.int o.conf,V.int o.kind,V.str o.subj,V.int o.alg,V.int o.bits,V.int o.num,V.str o.text]
def alT (l:List Qa) (es:List JG) (n i:Nat):List (Nat×V):=[(0,.sl 11 (l.map Qa.v)),(5,.ptr 0 0),(7,.sl 4 (es.map JG.v)),(8,V.int 0),(9,V.int n),(10,V.int i)]
def alS (l:List Qa) (es:List JG) (o:Qa) (n i:Nat):St:=QS (alT l es n i) [(0,alO o)] 1
def alK (l:List Qa) (es:List JG) (o:Qa) (n i k:Nat):St:=QS ((11,V.int k) :: alT l es n i) [(0,alO o)] 1
def alL (l:List Qa) (o:Qa) (n k:Nat):St:=QS [(0,.sl 11 (l.map Qa.v)),(5,.ptr 0 0),(8,V.int 0),(9,V.int n),(12,V.int k)] [(0,alO o)] 1
def aaw:=qd Proofs.Tryz.f14 [zhn 16,zhn 11]
def abG (Γ:Env) (f:Nat):Prop:=∀ (l:List Qa) (gap:Int) (o:Qa) (hl:l.length < 2 ^ 19) (hz:∀ x∈l,x.Sz) (hE:Y6 l gap = 0),EvN Γ f [.sl 11 (l.map Qa.v),V.int gap,o.v] (V.bool (aj0 l gap o))
attribute [local go_sem] alO QS in
theorem al8 {Γ:Env} {f:Nat} (h:Has Γ.P f 76 aaw.1.1.ac aaw.1.2) (z0:X4 Γ 36):abG Γ f:=by
 intro l gap o hl hz hE
 refine Qc h zsi zcl zcl fun C hC hm=>?_
 subst hC
 simp only [aaw,qd,DC.ac]
 have gE:=(z0 l gap (by omega) hz).b
 rw [awd,if_pos hE] at gE
 have hh:∀ e∈Xj l gap,e.hosts.length≤l.length:=fun e he=>(ail he).2.2.2
 rw [aj0]
 have hel:(Xj l gap).length≤l.length:=aeo l gap
 generalize Xj l gap = es at *
 have hHl:=alP (gap:=gap) es hh
 have hml:=zT l.length hel
 have hml2:l.length * l.length < 2 ^ 40:=Nat.lt_of_le_of_lt (Nat.mul_le_mul (Nat.le_of_lt hl) (Nat.le_of_lt hl)) (by decide)
 have hlm:(l.map Qa.v).length = l.length:=zb _
 have hem:(es.map JG.v).length = es.length:=zb _
 simp only [Qa.v,Qa.cells] at gE ⊢
 (have zx:=za hlm hem);refine zgo ?_;repeat' first|exact zt|apply zan|intro hc
 refine Qj (ι:=Nat) (fun i=>i≤es.length) (fun i=>alS l es o (aip o.host (Xv (es.take i))) i) (fun i=>es.length - i) 0 (zJ _) (Qd [(0,0)]) (Qh [(0,0)] (by simp only [go_sem,zwl,alS,alK,alL,alT,alO,aip,Xv,List.take_zero,List.flatMap_nil,List.countP_nil]<;>exact zcc) (by simp only [go_sem,zwl,alS,alK,alL,alT,alO]<;>exact zcc) (by simp [alS,alK,alL,alT,Qd]) (by simp [alS,alK,alL,alT,alO];omega) (by omega)) fun i hi K' hL=>?_
 rcases hd:es.drop i with _|⟨e,r⟩
 ·have hkl:=Qu hd
  have e1:decide ((i:Int) < ((es.length:Nat):Int)) = false:=by simp;omega
  obtain rfl:i = es.length:=by omega
  rw [zG]
  clear hL
  simp only [alS,alT]
  (have zx:=za hlm (za hem e1));refine zgo ?_;repeat' first|exact zt|apply zan|intro hc
  have hnn:(((aip o.host (Xv es):Nat):Int) == 1) = (aip o.host (Xv es) == 1):=by
   rw [Zq];simp;omega
  refine Qj (ι:=Nat) (fun k=>k≤l.length∧(l.take k).any (af6 o) = false) (fun k=>alL l o (aip o.host (Xv es)) k) (fun k=>l.length - k) 0 ⟨zJ _,by simp⟩ (Qd []) (Qh [] (by simp only [go_sem,zwl,alS,alK,alL,alT,alO]<;>exact zcc) (by simp only [go_sem,zwl,alS,alK,alL,alT,alO]<;>exact zcc) (by simp [alS,alK,alL,alT,Qd]) (by simp [alS,alK,alL,alT,alO]) (by omega)) fun k hk K2 hL2=>?_
  obtain ⟨hk,hinv⟩:=hk
  rcases hd2:l.drop k with _|⟨x,r2⟩
  ·have hkl2:=Qu hd2
   have e2:decide ((k:Int) < ((l.length:Nat):Int)) = false:=by simp;omega
   rw [zi hkl2] at hinv
   rw [hinv]
   clear hL2
   simp only [alL]
   (have zx:=za hlm (za e2 hnn));exact zg
  obtain ⟨hk',hget,hr⟩:=Qq hd2
  have hw:=Qe (k:=k) (by omega)
  have e2:decide ((k:Int) < ((l.length:Nat):Int)) = true:=by simp;omega
  have vx:(l.map Qa.v)[k]? = some x.v:=by rw [zo,hget];rfl
  have hlb:af6 o x = (decide (x.day≥o.day) && !eqN x o):=rfl
  have hany:af6 o x = true→l.any (af6 o) = true:=fun h=>kz.2 ⟨x,zq hget,h⟩
  have hnx:af6 o x = false→(l.take (k + 1)).any (af6 o) = false:=fun h=>by
   rw [zB,hget,List.any_append,hinv];simp [h]
  have hgo:=fun s'=>hL2 s' (k + 1) (Qd [])
  clear hL2
  rw [eqN] at hlb
  simp only [Qa.v,Qa.cells] at vx
  simp only [alL]
  rcases b1:decide (x.day≥o.day) with _|_
  ·have hnx:=hnx (by rw [hlb,b1];rfl)
   clear hany hlb
   (have zx:=za hlm (za e2 (za vx (za b1 hw))));refine zgo ?_;repeat' first|exact zt|apply zan|intro hc
   all_goals exact hgo _ ⟨by omega,hnx⟩ (by omega) (Qh [] (by simp only [go_sem,zwl,alS,alK,alL,alT,alO]<;>exact zcc) (by simp only [go_sem,zwl,alS,alK,alL,alT,alO]<;>exact zcc) (by simp [alS,alK,alL,alT,Qd]) (by simp [alS,alK,alL,alT,alO]) (by omega))
  ·generalize hq:(x.src == o.src && (x.host == o.host && (x.mach == o.mach && (x.day == o.day && (x.conf == o.conf && (x.kind == o.kind && (x.subj == o.subj && (x.alg == o.alg && (x.bits == o.bits && (x.num == o.num && (x.text == o.text))))))))))) = q at *
   rcases q with _|_
   ·rw [hany (by rw [hlb,b1];rfl)]
    clear hgo hnx hany hlb
    (have zx:=za hlm (za e2 (za vx (za b1 (za hq hw)))));exact zg
   ·have hnx:=hnx (by rw [hlb,b1];rfl)
    clear hany hlb
    (have zx:=za hlm (za e2 (za vx (za b1 (za hq hw)))));refine zgo ?_;repeat' first|exact zt|apply zan|intro hc
    all_goals exact hgo _ ⟨by omega,hnx⟩ (by omega) (Qh [] (by simp only [go_sem,zwl,alS,alK,alL,alT,alO]<;>exact zcc) (by simp only [go_sem,zwl,alS,alK,alL,alT,alO]<;>exact zcc) (by simp [alS,alK,alL,alT,Qd]) (by simp [alS,alK,alL,alT,alO]) (by omega))
 obtain ⟨hi',hget,hr⟩:=Qq hd
 have hw:=Qe (k:=i) (by omega)
 have e1:decide ((i:Int) < ((es.length:Nat):Int)) = true:=by simp;omega
 have vx:(es.map JG.v)[i]? = some e.v:=by rw [zo,hget];rfl
 have hhm:(e.hosts.map V.str).length = e.hosts.length:=zb _
 have hht:=apT hget
 have hcl:∀ L:List (List UInt8),L.length≤(Xv es).length→aip o.host L < 2 ^ 40:=fun L hL=>by have:=awo o.host L;omega
 have hsub:(Xv (es.take (i + 1))).length≤(Xv es).length:=by
  have h:=congrArg Xv (kh (i + 1) es)
  rw [Xv,List.flatMap_append] at h
  rw [← h,zv];exact bh _ _
 rw [hht,zv] at hsub
 simp only [JG.v] at vx
 have hgo:=fun s'=>hL s' (i + 1) (Qd [])
 rw [hht] at hgo
 clear hL
 simp only [alS,alT]
 (have zx:=za hlm (za hem e1));refine zgo ?_;repeat' first|exact zt|apply zan|intro hc
 refine Qj (ι:=Nat) (fun k=>k≤e.hosts.length) (fun k=>alK l es o (aip o.host (Xv (es.take i)++e.hosts.take k)) i k) (fun k=>e.hosts.length - k) 0 (zJ _) (Qd []) (Qh [] (by simp only [go_sem,zwl,alS,alK,alL,alT,alO,List.take_zero,ka]<;>exact zcc) (by simp only [go_sem,zwl,alS,alK,alL,alT,alO]<;>exact zcc) (by simp [alS,alK,alL,alT,Qd]) (by simp [alS,alK,alL,alT,alO]) (by omega)) fun k hk K2 hL2=>?_
 rcases hd2:e.hosts.drop k with _|⟨y,r2⟩
 ·have hkl:=Qu hd2
  have e2:decide ((k:Int) < ((e.hosts.length:Nat):Int)) = false:=by simp;omega
  rw [zi hkl]
  clear hL2
  simp only [alK,alT]
  (have zx:=za hlm (za hem (za vx (za e2 (za hhm hw)))));refine zgo ?_;repeat' first|exact zt|apply zan|intro hc
  all_goals exact hgo _ (by omega) (by omega) (Qh [] (by simp only [go_sem,zwl,alS,alK,alL,alT,alO]<;>exact zcc) (by simp only [go_sem,zwl,alS,alK,alL,alT,alO]<;>exact zcc) (by simp [alS,alK,alL,alT,Qd]) (by simp [alS,alK,alL,alT,alO]) (by omega))
 ·obtain ⟨hk',hget2,hr2⟩:=Qq hd2
  have hw2:=Qe (k:=k) (by omega)
  have e2:decide ((k:Int) < ((e.hosts.length:Nat):Int)) = true:=by simp;omega
  have vy:(e.hosts.map V.str)[k]? = some (V.str y):=by rw [zo,hget2];rfl
  have hck:=hcl (Xv (es.take i)++e.hosts.take k) (by rw [zv,zU];omega)
  have hw3:=Qe (k:=aip o.host (Xv (es.take i)++e.hosts.take k)) (by omega)
  have hnx:aip o.host (Xv (es.take i)++e.hosts.take (k + 1)) = aip o.host (Xv (es.take i)++e.hosts.take k) + (if (y == o.host) = true then 1 else 0):=by
   rw [zB,hget2,← kq,aip,List.countP_append];simp [aip,List.countP_cons]
  have hg2:=fun s'=>hL2 s' (k + 1) (Qd [])
  rw [hnx] at hg2
  clear hL2 hgo hnx
  generalize aip o.host (Xv (es.take i)++e.hosts.take k) = n at *
  simp only [alK,alT]
  rcases b1:(y == o.host) with _|_
  ·rw [b1,if_neg (by decide)] at hg2
   (have zx:=za hlm (za hem (za vx (za vy (za e2 (za hhm (za b1 hw2)))))));refine zgo ?_;repeat' first|exact zt|apply zan|intro hc
   all_goals exact hg2 _ (by omega) (by omega) (Qh [] (by simp only [go_sem,zwl,alS,alK,alL,alT,alO]<;>exact zcc) (by simp only [go_sem,zwl,alS,alK,alL,alT,alO]<;>exact zcc) (by simp [alS,alK,alL,alT,Qd]) (by simp [alS,alK,alL,alT,alO]) (by omega))
  ·rw [b1,if_pos rfl] at hg2
   (have zx:=za hlm (za hem (za vx (za vy (za e2 (za hhm (za b1 (za hw2 hw3))))))));refine zgo ?_;repeat' first|exact zt|apply zan|intro hc
   all_goals exact hg2 _ (by omega) (by omega) (Qh [] (by simp only [go_sem,zwl,alS,alK,alL,alT,alO]<;>exact zcc) (by simp only [go_sem,zwl,alS,alK,alL,alT,alO]<;>exact zcc) (by simp [alS,alK,alL,alT,Qd]) (by simp [alS,alK,alL,alT,alO]) (by omega))
theorem asC {h:List UInt8}:∀ {es:List JG} {e e':JG},aip h (Xv es) = 1→e∈es→e'∈es→h∈e.hosts→h∈e'.hosts→e = e'
 | [],e,e',_,he,_,_,_=>by cases he
 | y :: r,e,e',hc,he,he',h1,h2=>by
   have hp:∀ L:List (List UInt8),h∈L→0 < aip h L:=fun L hL=>List.countP_pos_iff.2 ⟨h,hL,by simp⟩
   have hm:∀ z∈r,h∈z.hosts→0 < aip h (Xv r):=fun z hz hh=>hp _ (List.mem_flatMap.2 ⟨z,hz,hh⟩)
   rw [Xv,Z9,aip,List.countP_append] at hc
   rcases zw.1 he with k1|k1<;>rcases zw.1 he' with k2|k2
   ·rw [k1,k2]
   ·rw [k1] at h1;have a:=hp _ h1;have b:=hm _ k2 h2;simp only [aip,Xv] at a b;omega
   ·rw [k2] at h2;have a:=hp _ h2;have b:=hm _ k1 h1;simp only [aip,Xv] at a b;omega
   ·by_cases hz:aip h (Xv r) = 1
    ·exact asC hz k1 k2 h1 h2
    ·have b:=hm _ k1 h1;simp only [aip,Xv] at b hz;omega
def ak0 (q:Qa) (t:Int):Qa:=⟨q.src,q.host,q.mach,t + 1,100,8,q.subj,q.alg,q.bits,q.num,q.text⟩
def aw4 (f:Qo) (q:Qa):Qo:=⟨0,f.subj,f.kind,f.alg,f.bits,0,q.host,0⟩
theorem auj {q:Qa} (h:YI q = true):q.host≠[]:=fun h0=>by
 simp only [YI,QP,zA,zC] at h
 rw [h0] at h
 have:=h.1.1.1.1.1.1.1.2.1
 simp at this
theorem auk {q:Qa} (h:YI q = true):q.conf≤100:=by
 simp only [YI,zA,zC] at h
 exact h.1.1.1.2.2
theorem avL {q:Qa} {t:Int} (h:YI q = true) (hk:q.kind = 1) (ht:0≤t∧t < 40000):YI (ak0 q t) = true:=by
 simp only [YI,wB,hk,ak0] at h ⊢
 grind
theorem aft {l:List Qa} {gap:Int}:(∀ e∈Xj l gap,∀ i∈e.finds,∀ x,l[i]? = some x→x.host∈e.hosts)∧∀ j,j < l.length→∃ e∈Xj l gap,j∈e.finds:=ami (ahc l gap) l.length (zj _)
theorem asw {l:List Qa} {day age:Int}:∀ (fs:List Nat) (m:PM) (v:Nat),v∈(fs.foldl (ap6 l day age) m).2→v∈m.2∨v∈fs
 | [],m,v,h=>.inl h
 | i :: r,m,v,h=>by
   rw [List.foldl_cons] at h
   rcases asw r _ v h with h|h
   ·have h2:v∈m.2∨v = i:=by
     rw [ap6] at h
     (repeat' split at h)
     ·exact .inl h
     ·exact .inl h
     ·rcases zP.1 h with h|h
      ·exact .inl h
      ·exact .inr (zy.1 h)
     ·exact .inl h
     ·exact Zh h
     ·exact .inl h
    rcases h2 with h2|h2
    ·exact .inl h2
    ·exact .inr (h2 ▸ kD)
   ·exact .inr (kp _ h)
theorem aqJ {l:List Qa} {gap day age pu:Int} {rs:List Ql} {ks:List Jg} {f:Qo} (h:f∈ak3 l gap day age rs ks pu):∃ (i:Nat) (q:Qa),l[i]? = some q∧f = af8 f.ent i q∧q.kind = 1∧yI l gap day age { f with text:=q.host } = true:=by
 rw [ak3,List.mem_filter] at h
 obtain ⟨hf,hk⟩:=h
 obtain ⟨fl,h1,h2⟩:=List.mem_flatten.1 hf
 rw [YS,kc] at h1
 obtain ⟨e,he,rfl⟩:=h1
 have h3:=h2
 rw [qX,adL,Z5] at h3
 obtain ⟨i,hi,h3⟩:=h3
 rw [acL] at h3
 rcases hx:l[i]? with _|q
 ·rw [hx] at h3;cases h3
 rw [hx] at h3
 dsimp only at h3
 split at h3
 ·cases h3
 cases h3
 have hif:i∈e.finds:=(asw _ _ _ hi).resolve_left (by simp)
 have hh:=aft.1 e he i hif q hx
 refine ⟨i,q,hx,rfl,?_,?_⟩
 ·simp only [wkB,af8,zA,kx] at hk
  exact hk.1
 ·rw [yI,kz]
  refine ⟨e,he,?_⟩
  rw [alQ,zA]
  refine ⟨?_,kz.2 ⟨_,h2,by simp [aj7]⟩⟩
  simp only [kC]
  exact .inr (kz.2 ⟨_,hh,by simp⟩)
theorem aql (x:List Qa):JN x (List.range x.length) = x:=by
 have h:∀ n,n≤x.length→JN x (List.range n) = x.take n:=by
  intro n
  induction n with
  | zero=>intro _;rfl
  | succ n ih =>
    intro hn
    rw [ZO,JN,bg,zB]
    have:=ih (by omega)
    rw [JN] at this
    rw [this]
    congr 1
 rw [h _ (zj _),zG]
theorem av9 {l:List Qa} {gap day age:Int} {f:Qo} (hK:XW l gap day age = 0) (h:yI l gap day age f = true):ap0 l gap day age f≠[]:=fun h0=>by
 have he:Y6 l gap = 0:=by
  have h2:=vO.1 hK
  rw [Y6,if_pos h2.nm,if_neg (by have:=h2.g;omega)]
 have h1:=al6 (h:=anq l gap day age f) (l.length + 1) (List.range l.length) (by rw [anq,aql,he,h];rfl)
 rw [show al7 (anq l gap day age f) (l.length + 1) (List.range l.length) = [] from h0,anq] at h1
 have h2:yI (JN l []) gap day age f = false:=rfl
 rw [h2,zY] at h1
 cases h1
theorem atz {y:List Qa} {gap t:Int} {f:Qo} {q:Qa} (hm:ak0 q t∈y) (hc:∀ x∈y,YI x = true) (hk:f.kind = 1) (hf:f.subj = q.subj∧f.alg = q.alg∧f.bits = q.bits) (hh:yI y gap (t + 1) 100 (aw4 f q) = true) (ha:aj0 y gap (ak0 q t) = true):False:=by
 rw [aj0,zA,kx,Zp,List.any_eq_false] at ha
 obtain ⟨hL,hone⟩:=ha
 obtain ⟨j,hj⟩:=List.mem_iff_getElem?.1 hm
 obtain ⟨e0,he0,hje⟩:=aft.2 j (zl.1 hj).1
 have hh0:=aft.1 e0 he0 j hje _ hj
 rw [yI,kz] at hh
 obtain ⟨e,he,hh⟩:=hh
 rw [alQ,zA] at hh
 obtain ⟨h1,h2⟩:=hh
 have hne:q.host≠[]:=auj (q:=ak0 q t) (hc _ hm)
 have hhe:q.host∈e.hosts:=by
  rcases kC _ _ ▸ h1 with h1|h1
  ·exact absurd (eq_of_beq h1) hne
  ·obtain ⟨z,hz,hzz⟩:=kz.1 h1
   have:q.host = z:=zL hzz
   rw [this];exact hz
 obtain rfl:=asC hone he he0 hhe hh0
 obtain ⟨g,hg,hs⟩:=kz.1 h2
 simp only [aj7,aw4,zA,kx] at hs
 obtain ⟨s1,s2,⟨s3,s4⟩,s5⟩:=hs
 refine apO (o:=ak0 q t) rfl (by decide) (fun x hx=>auk (hc x hx)) (fun x hx hd=>?_) hje hj rfl hg (by rw [s2,hk]) (by rw [s1,hf.1];rfl) (by rw [s3,hf.2.1];rfl) (by rw [s4,hf.2.2];rfl)
 have h3:=hL x hx
 rw [af6,zn hd,zO,Zp,Bool.not_eq_false] at h3
 exact asr h3
end Av
end
