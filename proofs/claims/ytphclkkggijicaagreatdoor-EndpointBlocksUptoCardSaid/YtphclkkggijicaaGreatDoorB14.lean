/- From a law's contract to the row's step. -/
import Derived.Test.YtphclkkggijicaaGreatDoorB12
import Derived.Below
import Derived.Handed
import Derived.Test.YtphclkkggijicaaGreatDoorB13
set_option linter.unusedVariables false
set_option linter.unusedSimpArgs false
section
namespace Av
open Go Go.RowKit
def asc (P:Program) (W:World) (d:Prop):Env:=⟨P,fun b=>W.heap[b]?,d⟩
abbrev akT (P:Program) (W:World):Env:=asc P W False
def amd (W:World) (b _i:Nat):Prop:=b < W.heap.size
theorem ai6 {P:Program} (mix:P.follows .mixedOrders = true) {f:FuncId} (own:Own P f) {W:World} {d:Prop} {args:List V} {cargs:Array Value} {b:Bool}
  (h:EvN (asc P W d) f args (V.bool b)) (hsz:cargs.size = args.length) (hrep:∀ i (h:i < args.length) (h':i < cargs.size),Rep W (amd W) noμ cargs[i] args[i]) :
  Calls P f cargs W fun e W'=>e = .returned (.bool b)∧Below W.heap.size W W':=by
 let C:Ctx:={ P:=P,w0:=W,Z0:=amd W,F:=fun _=>False,m:=0,μ0:=noμ,kn:=fun b=>W.heap[b]?,dr:=d,mix:=mix,hkn:=by grind }
 have hg:Good C W (amd W) noμ (fun k=>([]:List Ob)[k]?):=by
  refine ⟨by grind,by grind,fun b i h=>h,zi _,fun _ _ _=>rfl,fun b i h=>.inl h,fun b i h=>h,fun _ _ _=>rfl,by grind,Vq.refl _⟩
 have:=h.1 C cargs rfl rfl (fun k _=>rfl) hg (fun b hb=>hb.elim) hsz hrep
 rw [show (asc P W d).P = P from rfl,show C.w0 = W from rfl,Xd own] at this
 refine Calls.mono this ?_
 rintro e w' ⟨v,Z',μ',rfl,hr,hgd,_⟩
 refine ⟨by rw [hr.scE.1],⟨hgd.oo.1,hgd.oo.2.1,hgd.oo.2.2.1,hgd.grow,fun k hk=>hgd.frame k hk (fun h=>h)⟩⟩
end Av
end
section
namespace Av
open Go
structure EvD (Γ:Env) (f:FuncId) (args:List V) (cs:List V) (res:V) (cs2:List V):Prop where
 ev:Ev Γ f (.ptr 0 0 :: args) [.box true cs] res [.box true cs2]
 cl:res.closed
 c1:Qa cs
 c2:Qa cs2
def Q3:List V→List Nat
 | []=>[]
 | .hd a _ _ :: r=>a :: Q3 r
 | .ptr a _ :: r=>a :: Q3 r
 | _ :: r=>Q3 r
mutual
theorem ai2 (o:Nat→Option Ob) (br l:List Nat) (hb:∀ x∈l,x ∉ br):∀ v:V,v.shutOk0 o (some l)→conv o br (some l) v (v.shut0 o)
 | .top,_=>by simp [V.shut0,conv]
 | .sc _,_=>by simp [V.shut0,conv]
 | .nn,_=>by simp [V.shut0,conv]
 | .sl _ _,_=>by simp [V.shut0,conv]
 | .ro _ _,_=>by simp [V.shut0,conv]
 | .ept _ _ _,_=>by simp [V.shut0,conv]
 | .mp _,_=>by simp [V.shut0,conv]
 | .hd a off len,h=>by
   obtain ⟨h1,wr,s,xs,h2⟩:=h
   simp only [V.shut0,h2,conv]
   exact ⟨h1,hb a h1,.inl ⟨wr,xs,rfl,rfl⟩⟩
 | .ptr a off,h=>by
   obtain ⟨h1,wr,cs,h2,h3⟩:=h
   simp only [V.shut0,h2,conv]
   exact ⟨h1,hb a h1,trivial,h3,wr,cs,rfl,Qc _ _ _ _ h3⟩
 | .agg cs,h=>by simp only [V.shut0,conv];exact UD o br l hb cs h
 | .tup cs,h=>by simp only [V.shut0,conv];exact UD o br l hb cs h
 | .clo f cs,h=>by simp only [V.shut0,conv];exact ⟨trivial,UD o br l hb cs h⟩
theorem UD (o:Nat→Option Ob) (br l:List Nat) (hb:∀ x∈l,x ∉ br):∀ cs:List V,Ud o (some l) cs→QE o br (some l) cs (K8 o cs)
 | [],_=>trivial
 | v :: r,h=>⟨ai2 o br l hb v h.1,UD o br l hb r h.2⟩
end
mutual
theorem akZ (o:Nat→Option Ob) (br l:List Nat) (hb:∀ x∈l,x ∉ br):∀ v:V,v.shutOk o (some l)→conv o br (some l) v (v.shut o)
 | .top,_=>by simp [V.shut,conv]
 | .sc _,_=>by simp [V.shut,conv]
 | .nn,_=>by simp [V.shut,conv]
 | .sl _ _,_=>by simp [V.shut,conv]
 | .ro _ _,_=>by simp [V.shut,conv]
 | .ept _ _ _,_=>by simp [V.shut,conv]
 | .mp _,_=>by simp [V.shut,conv]
 | .hd a off len,h=>by
   obtain ⟨h1,h2⟩:=h
   unfold aqQ at h2
   split at h2
   ·rename_i wr s xs h3
    simp only [V.shut,h3,conv]
    exact ⟨h1,hb a h1,.inl ⟨wr,xs,rfl,rfl⟩⟩
   ·rename_i wr s xs h3
    simp only [V.shut,h3,conv]
    exact ⟨h1,hb a h1,.inr ⟨wr,xs,rfl,UD _ _ _ hb _ h2.1,h2.2,XQ _ _⟩⟩
   ·exact h2.elim
 | .ptr a off,h=>by
   obtain ⟨h1,wr,cs,h2,h3⟩:=h
   simp only [V.shut,h2,conv]
   exact ⟨h1,hb a h1,trivial,h3,wr,cs,rfl,Qc _ _ _ _ h3⟩
 | .agg cs,h=>by simp only [V.shut,conv];exact Yd o br l hb cs h
 | .tup cs,h=>by simp only [V.shut,conv];exact Yd o br l hb cs h
 | .clo f cs,h=>by simp only [V.shut,conv];exact ⟨trivial,Yd o br l hb cs h⟩
theorem Yd (o:Nat→Option Ob) (br l:List Nat) (hb:∀ x∈l,x ∉ br):∀ cs:List V,Qu o (some l) cs→QE o br (some l) cs (JH o cs)
 | [],_=>trivial
 | v :: r,h=>⟨akZ o br l hb v h.1,Yd o br l hb r h.2⟩
end
section
variable {Γ:Env} {b:Nat} {r:List AO} {s:St} {d:Option Nat} {f:FuncId} {acts:List V} {res:V} {K:St→Prop} {cs cs2:List V} {a:Nat}
theorem ass (l:List Nat) (ha:s.o a = some (.box true cs)) (h:EvD Γ f (JH s.o acts) cs res cs2) (hc:Qu s.o (some l) acts) (hal:a ∉ l) (hab:a < b)
  (hk:W7 Γ (b + KK) r { t:=(s.put d res).t,o:=upd (j3 (some l) [a] s.o) a (some (.box true cs2)),n:=s.n } K):awC Γ b r s d f (.ptr a 0 :: acts) K:=by
 refine Yx ⟨_,_,_,_,[a],some l,h.ev,⟨?_,Yd s.o [a] l ?_ acts hc⟩,⟨⟨_,ha,Qc _ _ _ _ h.c1⟩,trivial⟩,by simp,by simpa using hab,zi _,by simp [KK],fun h=>by simp at h,?_⟩
 ·simp [conv]
 ·grind
 ·rw [Jx _ _ h.cl]
  simp only [YD,YK,Ob.ren,Q0 _ _ h.c2]
  exact hk
theorem arF (ha:s.o a = some (.box true cs)) (h:EvD Γ f (JH s.o acts) cs res cs2) (hc:Qu s.o (some (Q3 acts)) acts) (hal:a ∉ Q3 acts) (hab:a < b)
  (hk:W7 Γ (b + KK) r { t:=(s.put d res).t,o:=upd (j3 (some (Q3 acts)) [a] s.o) a (some (.box true cs2)),n:=s.n } K):awC Γ b r s d f (.ptr a 0 :: acts) K:=ass _ ha h hc hal hab hk
theorem XH {x:V} {args:List V} {okf:Option (List Nat)→Prop} (ha:s.o a = some (.box true cs)) (h:EvD Γ f args cs res cs2) (hal:(Q3 acts).contains a = false) (hab:decide (a < b) = true) (hc:Qu s.o (some (Q3 acts)) acts)
  (hk:W7 Γ (b + KK) r { t:=(s.put d res).t,o:=upd (j3 (some (Q3 acts)) [a] s.o) a (some (.box true cs2)),n:=s.n } K):aii Γ b r s d f (.ptr a 0 :: acts) (x :: args) okf K:=by
 intro h1 _
 simp only [JH,ke] at h1
 obtain ⟨_,rfl⟩:=h1
 exact arF ha h hc (by simpa using hal) (zZ hab) hk
theorem aqR {br:List Nat} {o:Nat→Option Ob}:j3 (some []) br o = o:=by
 funext n;simp [j3]
theorem asK {x a n:Nat} {o:Nat→Option Ob}:j3 (some [x]) [a] o n = if n = x then (if x = a then o n else (o n).map Ob.frz) else o n:=by
 grind [j3,List.mem_singleton]
end
theorem Q5 {Γ:Env} {f:FuncId} {nt:Nat} {ac:AC} {rs:List Uc} (hb:Has Γ.P f nt ac rs) {args cs cs2:List V} {res:V} (ha:args.length + 1≤nt) (hr:res.closed) (h1:Qa cs) (h2:Qa cs2)
  (h:∀ C:Ctx,C.env = Γ→C.m = 1→AWp C nt ac (YX (.ptr 0 0 :: args) [.box true cs]) (wu 1 rs res [.box true cs2]) (fun _ _=>False) (wu 1 rs res [.box true cs2])):EvD Γ f args cs res cs2 :=
 ⟨by grind [YM],hr,h1,h2⟩
theorem QG {rs:List Uc} {res:V} {s:St} {cs2:List V} (vs:List V) (h:vX s rs = some vs) (ho:s.o 0 = some (.box true cs2)) (h2:Qa cs2) (hc:conv s.o [0] none (aih vs) res):wu 1 rs res [.box true cs2] s :=
 Wr rs vs _ h ⟨[0],none,hc,⟨⟨_,ho,fun h=>h,Qc _ _ _ _ h2⟩,trivial⟩,by simp,rfl⟩
structure EvR (Γ:Env) (f:FuncId) (args:List V) (cs:List V):Prop where
 ev:Ev Γ f args [] (.ptr 0 0) [.box true cs]
 c1:Qa cs
theorem asp {Γ:Env} {b:Nat} {r:List AO} {s:St} {d:Option Nat} {f:FuncId} {acts cs:List V} {K:St→Prop} (h:EvR Γ f (JH s.o acts) cs) (hc:Qu s.o (some (Q3 acts)) acts)
  (hk:W7 Γ (b + KK) r { t:=(s.put d (.ptr b 0)).t,o:=upd (j3 (some (Q3 acts)) [] s.o) b (some (.box true cs)),n:=s.n } K):awC Γ b r s d f acts K:=by
 refine Yx ⟨_,_,_,_,[],some (Q3 acts),h.ev,JC _ _ _ hc,trivial,zV,by grind,by simp,by simp [KK],fun h=>by simp at h,?_⟩
 simp only [YD,YK,Ob.ren,Q0 _ _ h.c1,V.ren,sig]
 exact hk
theorem Vo {Γ:Env} {b:Nat} {r:List AO} {s:St} {d:Option Nat} {f:FuncId} {acts args cs:List V} {K:St→Prop} {okf:Option (List Nat)→Prop} (h:EvR Γ f args cs) (hc:okf (some (Q3 acts)))
  (hk:W7 Γ (b + KK) r { t:=(s.put d (.ptr b 0)).t,o:=upd (j3 (some (Q3 acts)) [] s.o) b (some (.box true cs)),n:=s.n } K):aii Γ b r s d f acts args okf K:=by
 rintro rfl rfl;exact asp h hc hk
theorem adg {Γ:Env} {f:FuncId} {nt:Nat} {ac:AC} {rs:List Uc} (hb:Has Γ.P f nt ac rs) {args cs:List V} (ha:args.length≤nt) (h1:Qa cs)
  (h:∀ C:Ctx,C.env = Γ→C.m = 0→AWp C nt ac (YX args []) (wu 0 rs (.ptr 0 0) [.box true cs]) (fun _ _=>False) (wu 0 rs (.ptr 0 0) [.box true cs])):EvR Γ f args cs :=
 ⟨YM hb ha h,h1⟩
theorem arm {rs:List Uc} {s:St} {cs:List V} (a:Nat) (h:vX s rs = some [.ptr a 0]) (ho:s.o a = some (.box true cs)) (h2:Qa cs):wu 0 rs (.ptr 0 0) [.box true cs] s :=
 Wr rs _ _ h ⟨[a],none,by simp [aih,conv],⟨⟨_,ho,fun h=>h,Qc _ _ _ _ h2⟩,trivial⟩,by simp,rfl⟩
attribute [go_sem] aqR asK Q3 Ob.frz
end Av
end
noncomputable section
set_option maxRecDepth 10000
set_option maxHeartbeats 4000000
namespace Av
open Go
attribute [local irreducible] AWp W7 Kx jy awS awC vE awQ aay QP W6 vu awR Vn awB okR jx ris
structure Qo where
 code:Int
 name:List UInt8
 kx1:Int
 kx2:Int
 sg1:Int
 sg2:Int
 ci1:Int
 ci2:Int
 mc1:Int
 mc2:Int
 lo:Int
 hi:Int
 deriving DecidableEq
def Qo.cells (s:Qo):List V:=[V.int s.code,V.str s.name,V.int s.kx1,V.int s.kx2,V.int s.sg1,V.int s.sg2,V.int s.ci1,V.int s.ci2,V.int s.mc1,V.int s.mc2,V.int s.lo,V.int s.hi]
def Qo.v (s:Qo):V:=.agg s.cells
def Qs:List Qo:=[⟨1,[114,115,97,45,114,99,52,45,109,100,53],10,0,5,0,14,128,19,0,1,2⟩,⟨2,[114,115,97,45,114,99,52,45,115,104,97],10,0,5,0,14,128,20,0,1,3⟩,⟨3,[114,115,97,45,100,101,115,51,45,115,104,97],10,0,5,0,15,168,20,0,1,3⟩,⟨4,[100,104,101,45,100,115,97,45,100,101,115,51,45,115,104,97],11,1024,6,0,15,168,20,0,1,3⟩,⟨5,[100,104,101,45,114,115,97,45,100,101,115,51,45,115,104,97],11,1024,5,0,15,168,20,0,1,3⟩,⟨6,[114,115,97,45,97,101,115,49,50,56,45,115,104,97],10,0,5,0,16,128,20,0,1,3⟩,⟨7,[100,104,101,45,114,115,97,45,97,101,115,49,50,56,45,115,104,97],11,2048,5,0,16,128,20,0,1,3⟩,⟨8,[101,99,100,104,101,45,114,115,97,45,97,101,115,49,50,56,45,115,104,97],12,256,5,0,16,128,20,0,1,3⟩,⟨9,[101,99,100,104,101,45,101,99,100,115,97,45,97,101,115,50,53,54,45,115,104,97,50,53,54],12,256,7,0,16,256,21,0,3,3⟩,⟨10,[101,99,100,104,101,45,114,115,97,45,97,101,115,49,50,56,45,103,99,109],12,256,5,0,17,128,22,0,3,3⟩,⟨11,[101,99,100,104,101,45,101,99,100,115,97,45,97,101,115,50,53,54,45,103,99,109],12,384,7,0,17,256,22,0,3,3⟩,⟨12,[101,99,100,104,101,45,114,115,97,45,99,104,97,99,104,97],12,256,5,0,18,0,22,0,3,3⟩,⟨13,[114,115,97,45,97,101,115,50,53,54,45,103,99,109],10,0,5,0,17,256,22,0,3,3⟩,⟨14,[97,101,115,49,50,56,45,103,99,109],12,256,0,0,17,128,22,0,4,4⟩,⟨15,[99,104,97,99,104,97],12,256,0,0,18,0,22,0,4,4⟩,⟨16,[109,108,107,101,109,45,97,101,115,50,53,54,45,103,99,109],13,768,0,0,17,256,22,0,4,4⟩]
def ae8 (k:Nat):List V:=(Qs.take k).map Qo.v++(Qs.drop k).map fun s=>Qo.v { s with code:=0 }
theorem aim (k:Nat) (h:k < 16):∃ cs,(ae8 k)[k]? = some (.agg (V.int 0 :: cs))∧cs.length = 11∧(ae8 k).set k (.agg (V.int ((k + 1:Nat):Int) :: cs)) = ae8 (k + 1):=by
 rcases (by omega:k = 0∨k = 1∨k = 2∨k = 3∨k = 4∨k = 5∨k = 6∨k = 7∨k = 8∨k = 9∨k = 10∨k = 11∨k = 12∨k = 13∨k = 14∨k = 15) with rfl|rfl|rfl|rfl|rfl|rfl|rfl|rfl|rfl|rfl|rfl|rfl|rfl|rfl|rfl|rfl
 all_goals exact ⟨_,rfl,rfl,rfl⟩
def WD:=qd Proofs.Tryz.f147 [zhn 82]
def YU (Γ:Env) (f:Nat):Prop:=EvC Γ f [] (.sl 12 (Qs.map Qo.v))
theorem abb {Γ:Env} {f:Nat} (h:Has Γ.P f 125 WD.1.1.ac WD.1.2) (z0:jv Γ 180):YU Γ f:=by
 refine Qn h zsi (by simp only [V.closed]) fun C hC hm=>?_
 subst hC
 simp only [WD,qd,DC.ac]
 repeat' (first|(refine zsk ?_;intro K' hK)|(refine zrg ?_;intro K' hK)|refine zsp ?_|(refine zsc ?_ ?_<;>intro hc<;>first|exact znh|try simp only [znz] at hc)|simp (maxSteps:=1000000) only [go_sem]|(refine hK _ ?_;clear hK K')|apply zan|((first|apply QC|apply Qr);(focus first|exact (z0 _ _).b))|exact zsq|fail)
 refine Qz (ι:=Nat) (fun k=>k≤16) (fun k=>Yo [(15,.hd 0 0 16),(113,V.int 16),(114,V.int k)] [(0,.buf true 12 (ae8 k))] 1) (fun k=>16 - k) 0 (by omega) (Qp [(0,123000)]) (JS _ zwa zwa (by simp) (by simp;omega) (by omega)) fun k hk K' hL=>?_
 by_cases hk':k < 16
 ·obtain ⟨cs,hget,hcs,hset⟩:=aim k hk'
  have hw:=Qd (k:=k) (by omega)
  have hs:(1:Int)≤1:=by omega
  repeat' (first|(refine zsk ?_;intro K' hK)|(refine zrg ?_;intro K' hK)|refine zsp ?_|(refine zsc ?_ ?_<;>intro hc<;>first|exact znh|try simp only [znz] at hc)|simp (maxSteps:=1000000) only [go_sem,Yo,hget,hw]|(refine hK _ ?_;clear hK K')|apply zan|((first|apply QC|apply Qr);(focus first|exact (z0 _ _).b))|exact zsq|fail)
  refine hL _ (k + 1) (Qp []) (by omega) (by omega) (JS [] zwa (by simp only [go_sem,zwl];(try simp only [Zj,Int.toNat_natCast,List.take_zero,List.nil_append,hset]);(repeat' (first|rfl|apply za|omega|exact fun h=>h|exact Exists.intro _ rfl))) (by simp) (by simp) (by omega))
 ·obtain rfl:k = 16:=by omega
  repeat' (first|(refine zsk ?_;intro K' hK)|(refine zrg ?_;intro K' hK)|refine zsp ?_|(refine zsc ?_ ?_<;>intro hc<;>first|exact znh|try simp only [znz] at hc)|simp (maxSteps:=1000000) only [go_sem,Yo]|(refine hK _ ?_;clear hK K')|apply zan|((first|apply QC|apply Qr);(focus first|exact (z0 _ _).b))|exact zsq|fail)
  refine Qf _ rfl ?_;simp only [go_sem]
  rfl
theorem akK (b:Int):0≤aie b aiJ∧aie b aiJ≤256:=by
 simp only [aiJ,aie];repeat' split
 all_goals omega
theorem akW (a:Int):Yu a = alT∨Yu a∈Q1:=by
 unfold Yu
 split
 ·rename_i ha
  have hk:a.toNat < Q1.length:=by have:Q1.length = 23:=rfl;omega
  rw [zo,zf hk,Option.getD_some]
  exact .inr (zN hk)
 ·exact .inl rfl
theorem agD:∀ r∈Q1,∀ x∈r.strengths,0≤x∧x≤256:=by decide
theorem aed (a:Int):∀ x∈(Yu a).strengths,0≤x∧x≤256:=by
 rcases akW a with h|h
 ·rw [h];simp [alT]
 ·exact agD _ h
theorem akO {l:List Int} (h:∀ x∈l,0≤x∧x≤256) (k:Nat):0≤l.getD k 0∧l.getD k 0≤256:=by
 rw [zo]
 cases hk:l[k]? with
 | none=>simp
 | some x=>simpa using h x (zj hk)
theorem aiP {l:List Int} (h:∀ x∈l,0≤x∧x≤256):0≤l.headD 0∧l.headD 0≤256:=by
 cases l with
 | nil=>simp
 | cons x r=>simpa using h x (by simp)
theorem ai1 (b:Int) (h:XO b 0 [160,224,256,384,521]≥0):b = 160∨b = 224∨b = 256∨b = 384∨b = 521:=by
 simpa using ahm _ _ _ h
theorem ap7 (b:Int) (h:b = 160∨b = 224∨b = 256∨b = 384∨b = 521):IntKind.i64.wrap (b.tdiv 2) = b / 2:=by
 rcases h with rfl|rfl|rfl|rfl|rfl<;>rfl
theorem adG (a b:Int):0≤QL a b∧QL a b≤512:=by
 have h1:=aed a
 have h2:=aiP h1
 have h3:=akO h1 (XO b 0 (Yu a).sizes).toNat
 have h4:=akK b
 simp only [QL,Uy]
 split
 ·omega
 ·split
  ·split<;>omega
  ·split
   ·split<;>omega
   ·split
    ·split
     ·rename_i hf
      have:=ai1 b hf
      rw [ap7 b this];omega
     ·omega
    ·split
     ·split<;>omega
     ·omega
def ajq (r:abM):V:=.agg [V.str r.name,V.int r.kind]
def aiw:List V:=Q1.map ajq
theorem acH {k:Nat} {r:abM} (h:Q1[k]? = some r):aiw[k]? = some (ajq r):=by
 rw [aiw,zq,h];rfl
theorem akX {a:Int} (ha:1≤a∧a≤22):Q1[a.toNat]? = some (Yu a):=by
 have hl:Q1.length = 23:=rfl
 have hk:a.toNat < Q1.length:=by omega
 rw [Yu,if_pos ha,zo,zf hk,Option.getD_some]
def qr:=qd Proofs.Tryz.f125 []
def Kq (Γ:Env) (f:Nat):Prop:=EvC Γ f [] (.sl 2 aiw)
theorem afJ {Γ:Env} {f:Nat} (h:Has Γ.P f 25 qr.1.1.ac qr.1.2) :Kq Γ f:=by
 refine Qn h zsi (by simp only [V.closed]) fun C hC hm=>?_
 subst hC
 simp only [qr,qd,DC.ac]
 refine zgo ?_;repeat' first|exact zt|apply zan|intro hc
 refine Qf _ rfl ?_;simp only [go_sem]
 rfl
def qt:=qd Proofs.Tryz.f61 []
def VE (Γ:Env) (f:Nat):Prop:=∀ (a:Int),EvN Γ f [V.int a] (V.int (Yu a).kind)
attribute [local go_sem] ajq in
theorem afK {Γ:Env} {f:Nat} (h:Has Γ.P f 14 qt.1.1.ac qt.1.2) (z0:Kq Γ 125):VE Γ f:=by
 intro a
 refine Qb h zsi zcl zcl fun C hC hm=>?_
 subst hC
 simp only [qt,qd,DC.ac]
 by_cases ha:1≤a∧a≤22
 ·have hg:=acH (akX ha)
  (have zx:=hg);refine zgo ?_;repeat' first|exact zt|apply zan|intro hc
  all_goals first|(refine Qf _ rfl ?_;simp only [go_sem];done)|(refine Qf _ rfl ?_;simp only [go_sem];simp [*];done)|(subst hc;refine Qf _ rfl ?_;simp only [go_sem];simp [*];done)
 ·have hc0:Yu a = alT:=by rw [Yu,if_neg ha]
  refine zgo ?_;repeat' first|exact zt|apply zan|intro hc
  all_goals first|(refine Qf _ rfl ?_;simp only [go_sem];done)|(refine Qf _ rfl ?_;simp only [go_sem];simp [hc0,alT, *];done)|(subst hc;refine Qf _ rfl ?_;simp only [go_sem];simp [hc0,alT, *];done)
theorem aol (s:List UInt8):J2 s 1 (Q1.drop 1) = J2 s 0 Q1:=by rfl
def qu:=qd Proofs.Tryz.f197 []
def VF (Γ:Env) (f:Nat):Prop:=∀ (s:List UInt8),EvN Γ f [V.str s] (V.int (J2 s 0 Q1))
attribute [local go_sem] ajq in
theorem afL {Γ:Env} {f:Nat} (h:Has Γ.P f 16 qu.1.1.ac qu.1.2) (z0:Kq Γ 125):VF Γ f:=by
 intro s
 refine Qb h zsi zcl zcl fun C hC hm=>?_
 subst hC
 simp only [qu,qd,DC.ac]
 refine zgo ?_;repeat' first|exact zt|apply zan|intro hc
 refine Qt (ι:=Nat) (fun k=>1≤k∧k≤23∧J2 s k (Q1.drop k) = J2 s 0 Q1) (fun k=>[(3,V.int k)]) (fun k=>23 - k) 1 (by omega) ⟨by simp,by simp,aol s⟩ zol zlt zet fun k hk K' hL=>?_
 obtain ⟨hk1,hk,hinv⟩:=hk
 have hl:Q1.length = 23:=rfl
 simp only [ovT,Jn,Nat.reduceEqDiff,reduceIte]
 by_cases hk2:k = 23
 ·subst hk2
  refine zgo ?_;repeat' first|exact zt|apply zan|intro hc
  refine Qf _ rfl ?_;simp only [go_sem]
  rw [← hinv];rfl
 ·obtain ⟨r,hr⟩:∃ r,Q1[k]? = some r:=⟨Q1[k]'(by omega),zf (by omega)⟩
  have hg:=acH hr
  have hd:Q1.drop k = r :: Q1.drop (k + 1):=by
   rw [zQ (by omega)]
   rw [zf (by omega)] at hr
   cases hr;rfl
  have hw:=Qd (k:=k) (by omega)
  rw [hd] at hinv
  (have zx:=za hg hw);refine zgo ?_;repeat' first|exact zt|apply zan|intro hc
  ·refine Qf _ rfl ?_;simp only [go_sem]
   rw [← hinv];simp [J2,hc];omega
  ·refine hL _ (k + 1) zet ⟨by omega,by omega,?_⟩ (by omega) zoe
   rw [← hinv,J2,if_neg (by first|omega|simp [hc])]
def KE (b:Int):List Int→List Int→Int
 | x :: xs,y :: ys=>if x = b then y else KE b xs ys
 | _,_=>0
def Ki:=qd Proofs.Tryz.f238 []
def jr (Γ:Env) (f:Nat):Prop:=∀ (b:Int) (xs ys:List Int) (hs:xs.length≤ys.length) (h2:xs.length < 2 ^ 62),EvN Γ f [V.int b,.sl 1 (xs.map V.int),.sl 1 (ys.map V.int)] (V.int (KE b xs ys))
theorem ad5 {Γ:Env} {f:Nat} (h:Has Γ.P f 24 Ki.1.1.ac Ki.1.2) :jr Γ f:=by
 intro b xs ys hs h2
 refine Qb h zsi zcl zcl fun C hC hm=>?_
 subst hC
 simp only [Ki,qd,DC.ac]
 refine zgo ?_;repeat' first|exact zt|apply zan|intro hc
 refine Qt (ι:=Nat) (fun k=>k≤xs.length∧KE b (xs.drop k) (ys.drop k) = KE b xs ys) (fun k=>[(7,V.int k)]) (fun k=>xs.length - k) 0 (by omega) ⟨by simp,by simp⟩ zol zlt zet fun k hk K' hL=>?_
 obtain ⟨hk,hinv⟩:=hk
 simp only [ovT,Jn,Nat.reduceEqDiff,reduceIte]
 rcases hd:xs.drop k with _|⟨x,r⟩
 ·have:=Qj hd
  rw [hd] at hinv
  refine zgo ?_;repeat' first|exact zt|apply zan|intro hc
  refine Qf _ rfl ?_;simp only [go_sem]
  rw [← hinv];simp [KE]
 ·obtain ⟨hk',hget,hr⟩:=Qe hd
  rcases hd2:ys.drop k with _|⟨y,r2⟩
  ·have:=Qj hd2;omega
  ·obtain ⟨hk2,hget2,hr2⟩:=Qe hd2
   rw [hd,hd2] at hinv
   have hw:=Qd (k:=k) (by omega)
   (have zx:=za hget (za hget2 hw));refine zgo ?_;repeat' first|exact zt|apply zan|intro hc
   ·refine Qf _ rfl ?_;simp only [go_sem]
    rw [← hinv];simp [KE,hc]
   ·refine hL _ (k + 1) zet ⟨by omega,?_⟩ (by omega) zoe
    rw [hr,hr2,← hinv,KE,if_neg hc]
def wT (a:Int):Int:=if a = 1 then 18 else if a = 2 then 60 else if a = 3∨a = 8∨a = 21 then 128 else if a = 4 then 192 else if a = 18∨a = 22 then 256 else if a = 19 then 64 else if a = 20 then 80 else 0
def arV (b:Int):Int:=if b < 512∨16384 < b then 0 else aie b aiJ
def Uj:=qd Proofs.Tryz.f239 []
def KJ (Γ:Env) (f:Nat):Prop:=∀ (a:Int),EvN Γ f [V.int a] (V.int (wT a))
theorem ac1 {Γ:Env} {f:Nat} (h:Has Γ.P f 21 Uj.1.1.ac Uj.1.2) :KJ Γ f:=by
 intro a
 refine Qb h zsi zcl zcl fun C hC hm=>?_
 subst hC
 simp only [Uj,qd,DC.ac]
 refine zgo ?_;repeat' first|exact zt|apply zan|intro hc
 all_goals (refine Qf _ rfl ?_;simp only [go_sem];simp [wT, *])
def Vg:=qd Proofs.Tryz.f237 []
def US (Γ:Env) (f:Nat):Prop:=∀ (b:Int),EvN Γ f [V.int b] (V.int (arV b))
theorem ab2 {Γ:Env} {f:Nat} (h:Has Γ.P f 25 Vg.1.1.ac Vg.1.2) :US Γ f:=by
 intro b
 refine Qb h zsi zcl zcl fun C hC hm=>?_
 subst hC
 simp only [Vg,qd,DC.ac]
 refine zgo ?_;repeat' first|exact zt|apply zan|intro hc
 all_goals (refine Qf _ rfl ?_;simp only [go_sem];simp only [arV,aie,aiJ];repeat' split)<;>omega
def jS (a b:Int):Int :=
 if a = 5∨a = 6∨a = 10∨a = 11 then arV b
 else if a = 7∨a = 12 then (if b = 160∨b = 224∨b = 256∨b = 384∨b = 521 then IntKind.i64.wrap (b.tdiv 2) else 0)
 else if a = 9 then KE b [44,65,87] [128,192,256]
 else if a = 13 then KE b [512,768,1024] [128,192,256]
 else if a = 14 then KE b [40,128] [40,60]
 else if a = 15 then KE b [112,168] [80,112]
 else if a = 16∨a = 17 then KE b [128,256] [128,256]
 else KE b [0] [wT a]
theorem akl (a:Int) (ha:¬ (1≤a∧a≤22)):wT a = 0:=by
 simp only [wT];repeat' split
 all_goals omega
theorem adL (a b:Int):jS a b = QL a b:=by
 by_cases ha:1≤a∧a≤22
 ·rcases (by omega:a = 1∨a = 2∨a = 3∨a = 4∨a = 5∨a = 6∨a = 7∨a = 8∨a = 9∨a = 10∨a = 11∨a = 12∨a = 13∨a = 14∨a = 15∨a = 16∨a = 17∨a = 18∨a = 19∨a = 20∨a = 21∨a = 22) with rfl|rfl|rfl|rfl|rfl|rfl|rfl|rfl|rfl|rfl|rfl|rfl|rfl|rfl|rfl|rfl|rfl|rfl|rfl|rfl|rfl|rfl
  all_goals simp [jS,QL,Uy,Yu,Q1,KE,wT,XO,arV]
  all_goals (repeat' split)<;>first|omega|rfl|simp_all
 ·have hs:=akl a ha
  rw [QL,Uy,if_pos (by simp [ha])]
  simp only [jS]
  rw [if_neg (by omega),if_neg (by omega),if_neg (by omega),if_neg (by omega),if_neg (by omega),if_neg (by omega),if_neg (by omega),hs]
  simp [KE]
def Wu:=qd Proofs.Tryz.f204 []
def Wd (Γ:Env) (f:Nat):Prop:=∀ (a b:Int),EvN Γ f [.agg [V.int a,V.int b]] (V.int (QL a b))
theorem aa2 {Γ:Env} {f:Nat} (h:Has Γ.P f 76 Wu.1.1.ac Wu.1.2) (z0:US Γ 237) (z1:jr Γ 238) (z2:KJ Γ 239):Wd Γ f:=by
 intro a b
 refine Qb h zsi zcl zcl fun C hC hm=>?_
 subst hC
 simp only [Wu,qd,DC.ac]
 rw [← adL]
 have k1:=z1 b [44,65,87] [128,192,256] (by simp) (by simp)
 have k2:=z1 b [512,768,1024] [128,192,256] (by simp) (by simp)
 have k3:=z1 b [40,128] [40,60] (by simp) (by simp)
 have k4:=z1 b [112,168] [80,112] (by simp) (by simp)
 have k5:=z1 b [128,256] [128,256] (by simp) (by simp)
 have k6:=z1 b [0] [wT a] (by simp) (by simp)
 (have zy0:=k1.b;have zy1:=k2.b;have zy2:=k3.b;have zy3:=k4.b;have zy4:=k5.b;have zy5:=k6.b);refine zgo ?_;repeat' first|exact zt|apply zan|intro hc
 all_goals (refine Qf _ rfl ?_;simp only [go_sem];simp [jS, *])
def Kj:=qd Proofs.Tryz.f169 []
def Ux (Γ:Env) (f:Nat):Prop:=∀ (a b:Int),EvN Γ f [.agg [V.int a,V.int b]] (V.bool (decide (QL a b > 0)))
theorem ad6 {Γ:Env} {f:Nat} (h:Has Γ.P f 6 Kj.1.1.ac Kj.1.2) (z0:Wd Γ 204):Ux Γ f:=by
 intro a b
 refine Qb h zsi zcl zcl fun C hC hm=>?_
 subst hC
 simp only [Kj,qd,DC.ac]
 refine zgo ?_;repeat' first|exact zt|apply zan|intro hc
 refine Qf _ rfl ?_;simp only [go_sem]
end Av
end
