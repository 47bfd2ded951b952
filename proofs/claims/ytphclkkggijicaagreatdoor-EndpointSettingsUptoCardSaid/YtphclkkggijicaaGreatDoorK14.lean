/- From a law's contract to the row's step. -/
import Derived.Test.YtphclkkggijicaaGreatDoorK12
import Derived.Below
import Derived.Handed
import Derived.Test.YtphclkkggijicaaGreatDoorK13
set_option linter.unusedVariables false
set_option linter.unusedSimpArgs false
section
namespace Av
open Go Go.RowKit
def arv (P:Program) (W:World) (d:Prop):Env:=⟨P,fun b=>W.heap[b]?,d⟩
abbrev akj (P:Program) (W:World):Env:=arv P W False
def amX (W:World) (b _i:Nat):Prop:=b < W.heap.size
theorem aiv {P:Program} (mix:P.follows .mixedOrders = true) {f:FuncId} (own:Own P f) {W:World} {d:Prop} {args:List V} {cargs:Array Value} {b:Bool}
  (h:EvN (arv P W d) f args (V.bool b)) (hsz:cargs.size = args.length) (hrep:∀ i (h:i < args.length) (h':i < cargs.size),Rep W (amX W) noμ cargs[i] args[i]) :
  Calls P f cargs W fun e W'=>e = .returned (.bool b)∧Below W.heap.size W W':=by
 let C:Ctx:={ P:=P,w0:=W,Z0:=amX W,F:=fun _=>False,m:=0,μ0:=noμ,kn:=fun b=>W.heap[b]?,dr:=d,mix:=mix,hkn:=by grind }
 have hg:Good C W (amX W) noμ (fun k=>([]:List Ob)[k]?):=by
  refine ⟨by grind,by grind,fun b i h=>h,zi _,fun _ _ _=>rfl,fun b i h=>.inl h,fun b i h=>h,fun _ _ _=>rfl,by grind,WZ.refl _⟩
 have:=h.1 C cargs rfl rfl (fun k _=>rfl) hg (fun b hb=>hb.elim) hsz hrep
 rw [show (arv P W d).P = P from rfl,show C.w0 = W from rfl,YY own] at this
 refine Calls.mono this ?_
 rintro e w' ⟨v,Z',μ',rfl,hr,hgd,_⟩
 refine ⟨by rw [hr.scE.1],⟨hgd.oo.1,hgd.oo.2.1,hgd.oo.2.2.1,hgd.grow,fun k hk=>hgd.frame k hk (fun h=>h)⟩⟩
end Av
end
section
namespace Av
open Go
structure EvD (Γ:Env) (f:FuncId) (args:List V) (cs:List V) (res:V) (cs2:List V):Prop where
 ev:Ev Γ f (.ptr 0 0 :: args) [.box true cs] res [.box true cs2]
 cl:res.closed
 c1:Qa cs
 c2:Qa cs2
def QS:List V→List Nat
 | []=>[]
 | .hd a _ _ :: r=>a :: QS r
 | .ptr a _ :: r=>a :: QS r
 | _ :: r=>QS r
mutual
theorem aiq (o:Nat→Option Ob) (br l:List Nat) (hb:∀ x∈l,x ∉ br):∀ v:V,v.shutOk0 o (some l)→conv o br (some l) v (v.shut0 o)
 | .top,_=>by simp [V.shut0,conv]
 | .sc _,_=>by simp [V.shut0,conv]
 | .nn,_=>by simp [V.shut0,conv]
 | .sl _ _,_=>by simp [V.shut0,conv]
 | .ro _ _,_=>by simp [V.shut0,conv]
 | .ept _ _ _,_=>by simp [V.shut0,conv]
 | .mp _,_=>by simp [V.shut0,conv]
 | .hd a off len,h=>by
   obtain ⟨h1,wr,s,xs,h2⟩:=h
   simp only [V.shut0,h2,conv]
   exact ⟨h1,hb a h1,.inl ⟨wr,xs,rfl,rfl⟩⟩
 | .ptr a off,h=>by
   obtain ⟨h1,wr,cs,h2,h3⟩:=h
   simp only [V.shut0,h2,conv]
   exact ⟨h1,hb a h1,trivial,h3,wr,cs,rfl,Qg _ _ _ _ h3⟩
 | .agg cs,h=>by simp only [V.shut0,conv];exact Uf o br l hb cs h
 | .tup cs,h=>by simp only [V.shut0,conv];exact Uf o br l hb cs h
 | .clo f cs,h=>by simp only [V.shut0,conv];exact ⟨trivial,Uf o br l hb cs h⟩
theorem Uf (o:Nat→Option Ob) (br l:List Nat) (hb:∀ x∈l,x ∉ br):∀ cs:List V,VL o (some l) cs→Qz o br (some l) cs (KM o cs)
 | [],_=>trivial
 | v :: r,h=>⟨aiq o br l hb v h.1,Uf o br l hb r h.2⟩
end
mutual
theorem akq (o:Nat→Option Ob) (br l:List Nat) (hb:∀ x∈l,x ∉ br):∀ v:V,v.shutOk o (some l)→conv o br (some l) v (v.shut o)
 | .top,_=>by simp [V.shut,conv]
 | .sc _,_=>by simp [V.shut,conv]
 | .nn,_=>by simp [V.shut,conv]
 | .sl _ _,_=>by simp [V.shut,conv]
 | .ro _ _,_=>by simp [V.shut,conv]
 | .ept _ _ _,_=>by simp [V.shut,conv]
 | .mp _,_=>by simp [V.shut,conv]
 | .hd a off len,h=>by
   obtain ⟨h1,h2⟩:=h
   unfold aqb at h2
   split at h2
   ·rename_i wr s xs h3
    simp only [V.shut,h3,conv]
    exact ⟨h1,hb a h1,.inl ⟨wr,xs,rfl,rfl⟩⟩
   ·rename_i wr s xs h3
    simp only [V.shut,h3,conv]
    exact ⟨h1,hb a h1,.inr ⟨wr,xs,rfl,Uf _ _ _ hb _ h2.1,h2.2,Xx _ _⟩⟩
   ·exact h2.elim
 | .ptr a off,h=>by
   obtain ⟨h1,wr,cs,h2,h3⟩:=h
   simp only [V.shut,h2,conv]
   exact ⟨h1,hb a h1,trivial,h3,wr,cs,rfl,Qg _ _ _ _ h3⟩
 | .agg cs,h=>by simp only [V.shut,conv];exact J6 o br l hb cs h
 | .tup cs,h=>by simp only [V.shut,conv];exact J6 o br l hb cs h
 | .clo f cs,h=>by simp only [V.shut,conv];exact ⟨trivial,J6 o br l hb cs h⟩
theorem J6 (o:Nat→Option Ob) (br l:List Nat) (hb:∀ x∈l,x ∉ br):∀ cs:List V,Qu o (some l) cs→Qz o br (some l) cs (JI o cs)
 | [],_=>trivial
 | v :: r,h=>⟨akq o br l hb v h.1,J6 o br l hb r h.2⟩
end
section
variable {Γ:Env} {b:Nat} {r:List AO} {s:St} {d:Option Nat} {f:FuncId} {acts:List V} {res:V} {K:St→Prop} {cs cs2:List V} {a:Nat}
theorem arJ (l:List Nat) (ha:s.o a = some (.box true cs)) (h:EvD Γ f (JI s.o acts) cs res cs2) (hc:Qu s.o (some l) acts) (hal:a ∉ l) (hab:a < b)
  (hk:Vo Γ (b + KK) r { t:=(s.put d res).t,o:=upd (jM (some l) [a] s.o) a (some (.box true cs2)),n:=s.n } K):awC Γ b r s d f (.ptr a 0 :: acts) K:=by
 refine Yk ⟨_,_,_,_,[a],some l,h.ev,⟨?_,J6 s.o [a] l ?_ acts hc⟩,⟨⟨_,ha,Qg _ _ _ _ h.c1⟩,trivial⟩,by simp,by simpa using hab,zi _,by simp [KK],fun h=>by simp at h,?_⟩
 ·simp [conv]
 ·grind
 ·rw [Jq _ _ h.cl]
  simp only [Ys,YB,Ob.ren,QU _ _ h.c2]
  exact hk
theorem aqX (ha:s.o a = some (.box true cs)) (h:EvD Γ f (JI s.o acts) cs res cs2) (hc:Qu s.o (some (QS acts)) acts) (hal:a ∉ QS acts) (hab:a < b)
  (hk:Vo Γ (b + KK) r { t:=(s.put d res).t,o:=upd (jM (some (QS acts)) [a] s.o) a (some (.box true cs2)),n:=s.n } K):awC Γ b r s d f (.ptr a 0 :: acts) K:=arJ _ ha h hc hal hab hk
theorem acV {x:V} {args:List V} {okf:Option (List Nat)→Prop} (ha:s.o a = some (.box true cs)) (h:EvD Γ f args cs res cs2) (hal:(QS acts).contains a = false) (hab:decide (a < b) = true) (hc:Qu s.o (some (QS acts)) acts)
  (hk:Vo Γ (b + KK) r { t:=(s.put d res).t,o:=upd (jM (some (QS acts)) [a] s.o) a (some (.box true cs2)),n:=s.n } K):ahI Γ b r s d f (.ptr a 0 :: acts) (x :: args) okf K:=by
 intro h1 _
 simp only [JI,ke] at h1
 obtain ⟨_,rfl⟩:=h1
 exact aqX ha h hc (by simpa using hal) (zY hab) hk
theorem aqd {br:List Nat} {o:Nat→Option Ob}:jM (some []) br o = o:=by
 funext n;simp [jM]
theorem ar1 {x a n:Nat} {o:Nat→Option Ob}:jM (some [x]) [a] o n = if n = x then (if x = a then o n else (o n).map Ob.frz) else o n:=by
 grind [jM,List.mem_singleton]
end
theorem QT {Γ:Env} {f:FuncId} {nt:Nat} {ac:AC} {rs:List V8} (hb:Has Γ.P f nt ac rs) {args cs cs2:List V} {res:V} (ha:args.length + 1≤nt) (hr:res.closed) (h1:Qa cs) (h2:Qa cs2)
  (h:∀ C:Ctx,C.env = Γ→C.m = 1→AWp C nt ac (YL (.ptr 0 0 :: args) [.box true cs]) (xP 1 rs res [.box true cs2]) (fun _ _=>False) (xP 1 rs res [.box true cs2])):EvD Γ f args cs res cs2 :=
 ⟨by grind [YD],hr,h1,h2⟩
theorem QB {rs:List V8} {res:V} {s:St} {cs2:List V} (vs:List V) (h:vn s rs = some vs) (ho:s.o 0 = some (.box true cs2)) (h2:Qa cs2) (hc:conv s.o [0] none (ahG vs) res):xP 1 rs res [.box true cs2] s :=
 Wb rs vs _ h ⟨[0],none,hc,⟨⟨_,ho,fun h=>h,Qg _ _ _ _ h2⟩,trivial⟩,by simp,rfl⟩
structure EvR (Γ:Env) (f:FuncId) (args:List V) (cs:List V):Prop where
 ev:Ev Γ f args [] (.ptr 0 0) [.box true cs]
 c1:Qa cs
theorem arG {Γ:Env} {b:Nat} {r:List AO} {s:St} {d:Option Nat} {f:FuncId} {acts cs:List V} {K:St→Prop} (h:EvR Γ f (JI s.o acts) cs) (hc:Qu s.o (some (QS acts)) acts)
  (hk:Vo Γ (b + KK) r { t:=(s.put d (.ptr b 0)).t,o:=upd (jM (some (QS acts)) [] s.o) b (some (.box true cs)),n:=s.n } K):awC Γ b r s d f acts K:=by
 refine Yk ⟨_,_,_,_,[],some (QS acts),h.ev,Jv _ _ _ hc,trivial,zT,by grind,by simp,by simp [KK],fun h=>by simp at h,?_⟩
 simp only [Ys,YB,Ob.ren,QU _ _ h.c1,V.ren,sig]
 exact hk
theorem amF {Γ:Env} {b:Nat} {r:List AO} {s:St} {d:Option Nat} {f:FuncId} {acts args cs:List V} {K:St→Prop} {okf:Option (List Nat)→Prop} (h:EvR Γ f args cs) (hc:okf (some (QS acts)))
  (hk:Vo Γ (b + KK) r { t:=(s.put d (.ptr b 0)).t,o:=upd (jM (some (QS acts)) [] s.o) b (some (.box true cs)),n:=s.n } K):ahI Γ b r s d f acts args okf K:=by
 rintro rfl rfl;exact arG h hc hk
theorem acM {Γ:Env} {f:FuncId} {nt:Nat} {ac:AC} {rs:List V8} (hb:Has Γ.P f nt ac rs) {args cs:List V} (ha:args.length≤nt) (h1:Qa cs)
  (h:∀ C:Ctx,C.env = Γ→C.m = 0→AWp C nt ac (YL args []) (xP 0 rs (.ptr 0 0) [.box true cs]) (fun _ _=>False) (xP 0 rs (.ptr 0 0) [.box true cs])):EvR Γ f args cs :=
 ⟨YD hb ha h,h1⟩
theorem aqG {rs:List V8} {s:St} {cs:List V} (a:Nat) (h:vn s rs = some [.ptr a 0]) (ho:s.o a = some (.box true cs)) (h2:Qa cs):xP 0 rs (.ptr 0 0) [.box true cs] s :=
 Wb rs _ _ h ⟨[a],none,by simp [ahG,conv],⟨⟨_,ho,fun h=>h,Qg _ _ _ _ h2⟩,trivial⟩,by simp,rfl⟩
attribute [go_sem] aqd ar1 QS Ob.frz
end Av
end
noncomputable section
set_option maxRecDepth 10000
set_option maxHeartbeats 4000000
namespace Av
open Go
attribute [local irreducible] AWp Vo Ky jA awS awC aad awQ aaN QL Vq vQ awR Vz awB okR js ris
structure Qm where
 code:Int
 name:List UInt8
 kx1:Int
 kx2:Int
 sg1:Int
 sg2:Int
 ci1:Int
 ci2:Int
 mc1:Int
 mc2:Int
 lo:Int
 hi:Int
 deriving DecidableEq
def Qm.cells (s:Qm):List V:=[V.int s.code,V.str s.name,V.int s.kx1,V.int s.kx2,V.int s.sg1,V.int s.sg2,V.int s.ci1,V.int s.ci2,V.int s.mc1,V.int s.mc2,V.int s.lo,V.int s.hi]
def Qm.v (s:Qm):V:=.agg s.cells
def Qq:List Qm:=[⟨1,[114,115,97,45,114,99,52,45,109,100,53],10,0,5,0,14,128,19,0,1,2⟩,⟨2,[114,115,97,45,114,99,52,45,115,104,97],10,0,5,0,14,128,20,0,1,3⟩,⟨3,[114,115,97,45,100,101,115,51,45,115,104,97],10,0,5,0,15,168,20,0,1,3⟩,⟨4,[100,104,101,45,100,115,97,45,100,101,115,51,45,115,104,97],11,1024,6,0,15,168,20,0,1,3⟩,⟨5,[100,104,101,45,114,115,97,45,100,101,115,51,45,115,104,97],11,1024,5,0,15,168,20,0,1,3⟩,⟨6,[114,115,97,45,97,101,115,49,50,56,45,115,104,97],10,0,5,0,16,128,20,0,1,3⟩,⟨7,[100,104,101,45,114,115,97,45,97,101,115,49,50,56,45,115,104,97],11,2048,5,0,16,128,20,0,1,3⟩,⟨8,[101,99,100,104,101,45,114,115,97,45,97,101,115,49,50,56,45,115,104,97],12,256,5,0,16,128,20,0,1,3⟩,⟨9,[101,99,100,104,101,45,101,99,100,115,97,45,97,101,115,50,53,54,45,115,104,97,50,53,54],12,256,7,0,16,256,21,0,3,3⟩,⟨10,[101,99,100,104,101,45,114,115,97,45,97,101,115,49,50,56,45,103,99,109],12,256,5,0,17,128,22,0,3,3⟩,⟨11,[101,99,100,104,101,45,101,99,100,115,97,45,97,101,115,50,53,54,45,103,99,109],12,384,7,0,17,256,22,0,3,3⟩,⟨12,[101,99,100,104,101,45,114,115,97,45,99,104,97,99,104,97],12,256,5,0,18,0,22,0,3,3⟩,⟨13,[114,115,97,45,97,101,115,50,53,54,45,103,99,109],10,0,5,0,17,256,22,0,3,3⟩,⟨14,[97,101,115,49,50,56,45,103,99,109],12,256,0,0,17,128,22,0,4,4⟩,⟨15,[99,104,97,99,104,97],12,256,0,0,18,0,22,0,4,4⟩,⟨16,[109,108,107,101,109,45,97,101,115,50,53,54,45,103,99,109],13,768,0,0,17,256,22,0,4,4⟩]
def aeG (k:Nat):List V:=(Qq.take k).map Qm.v++(Qq.drop k).map fun s=>Qm.v { s with code:=0 }
theorem ahM (k:Nat) (h:k < 16):∃ cs,(aeG k)[k]? = some (.agg (V.int 0 :: cs))∧cs.length = 11∧(aeG k).set k (.agg (V.int ((k + 1:Nat):Int) :: cs)) = aeG (k + 1):=by
 rcases (by omega:k = 0∨k = 1∨k = 2∨k = 3∨k = 4∨k = 5∨k = 6∨k = 7∨k = 8∨k = 9∨k = 10∨k = 11∨k = 12∨k = 13∨k = 14∨k = 15) with rfl|rfl|rfl|rfl|rfl|rfl|rfl|rfl|rfl|rfl|rfl|rfl|rfl|rfl|rfl|rfl
 all_goals exact ⟨_,rfl,rfl,rfl⟩
def Wn:=qd Proofs.Tryz.f147 [zhn 82]
def YI (Γ:Env) (f:Nat):Prop:=EvC Γ f [] (.sl 12 (Qq.map Qm.v))
theorem aaH {Γ:Env} {f:Nat} (h:Has Γ.P f 125 Wn.1.1.ac Wn.1.2) (z0:ja Γ 180):YI Γ f:=by
 refine Qn h zsi (by simp only [V.closed]) fun C hC hm=>?_
 subst hC
 simp only [Wn,qd,DC.ac]
 repeat' (first|(refine zsk ?_;intro K' hK)|(refine zrg ?_;intro K' hK)|refine zsp ?_|(refine zsc ?_ ?_<;>intro hc<;>first|exact znh|try simp only [znz] at hc)|simp (maxSteps:=1000000) only [go_sem]|(refine hK _ ?_;clear hK K')|apply zan|((first|apply Ju|apply QZ);(focus first|exact (z0 _ _).b))|exact zsq|fail)
 refine QA (ι:=Nat) (fun k=>k≤16) (fun k=>Yd [(15,.hd 0 0 16),(113,V.int 16),(114,V.int k)] [(0,.buf true 12 (aeG k))] 1) (fun k=>16 - k) 0 (by omega) (Qo [(0,123000)]) (JZ _ zwa zwa (by simp) (by simp;omega) (by omega)) fun k hk K' hL=>?_
 by_cases hk':k < 16
 ·obtain ⟨cs,hget,hcs,hset⟩:=ahM k hk'
  have hw:=Qc (k:=k) (by omega)
  have hs:(1:Int)≤1:=by omega
  repeat' (first|(refine zsk ?_;intro K' hK)|(refine zrg ?_;intro K' hK)|refine zsp ?_|(refine zsc ?_ ?_<;>intro hc<;>first|exact znh|try simp only [znz] at hc)|simp (maxSteps:=1000000) only [go_sem,Yd,hget,hw]|(refine hK _ ?_;clear hK K')|apply zan|((first|apply Ju|apply QZ);(focus first|exact (z0 _ _).b))|exact zsq|fail)
  refine hL _ (k + 1) (Qo []) (by omega) (by omega) (JZ [] zwa (by simp only [go_sem,zwl];(try simp only [Zs,Int.toNat_natCast,List.take_zero,List.nil_append,hset]);(repeat' (first|rfl|apply za|omega|exact fun h=>h|exact Exists.intro _ rfl))) (by simp) (by simp) (by omega))
 ·obtain rfl:k = 16:=by omega
  repeat' (first|(refine zsk ?_;intro K' hK)|(refine zrg ?_;intro K' hK)|refine zsp ?_|(refine zsc ?_ ?_<;>intro hc<;>first|exact znh|try simp only [znz] at hc)|simp (maxSteps:=1000000) only [go_sem,Yd]|(refine hK _ ?_;clear hK K')|apply zan|((first|apply Ju|apply QZ);(focus first|exact (z0 _ _).b))|exact zsq|fail)
  refine Qd _ rfl ?_;simp only [go_sem]
  rfl
theorem akb (b:Int):0≤ahD b ah7∧ahD b ah7≤256:=by
 simp only [ah7,ahD];repeat' split
 all_goals omega
theorem akn (a:Int):J5 a = alj∨J5 a∈QR:=by
 unfold J5
 split
 ·rename_i ha
  have hk:a.toNat < QR.length:=by have:QR.length = 23:=rfl;omega
  rw [zq,ze hk,Option.getD_some]
  exact .inr (zO hk)
 ·exact .inl rfl
theorem af7:∀ r∈QR,∀ x∈r.strengths,0≤x∧x≤256:=by decide
theorem adI (a:Int):∀ x∈(J5 a).strengths,0≤x∧x≤256:=by
 rcases akn a with h|h
 ·rw [h];simp [alj]
 ·exact af7 _ h
theorem akf {l:List Int} (h:∀ x∈l,0≤x∧x≤256) (k:Nat):0≤l.getD k 0∧l.getD k 0≤256:=by
 rw [zq]
 cases hk:l[k]? with
 | none=>simp
 | some x=>simpa using h x (zk hk)
theorem aid {l:List Int} (h:∀ x∈l,0≤x∧x≤256):0≤l.headD 0∧l.headD 0≤256:=by
 cases l with
 | nil=>simp
 | cons x r=>simpa using h x (by simp)
theorem aip (b:Int) (h:Xu b 0 [160,224,256,384,521]≥0):b = 160∨b = 224∨b = 256∨b = 384∨b = 521:=by
 simpa using agS _ _ _ h
theorem apt (b:Int) (h:b = 160∨b = 224∨b = 256∨b = 384∨b = 521):IntKind.i64.wrap (b.tdiv 2) = b / 2:=by
 rcases h with rfl|rfl|rfl|rfl|rfl<;>rfl
theorem ada (a b:Int):0≤QG a b∧QG a b≤512:=by
 have h1:=adI a
 have h2:=aid h1
 have h3:=akf h1 (Xu b 0 (J5 a).sizes).toNat
 have h4:=akb b
 simp only [QG,Ua]
 split
 ·omega
 ·split
  ·split<;>omega
  ·split
   ·split<;>omega
   ·split
    ·split
     ·rename_i hf
      have:=aip b hf
      rw [apt b this];omega
     ·omega
    ·split
     ·split<;>omega
     ·omega
def aiR (r:abm):V:=.agg [V.str r.name,V.int r.kind]
def ahU:List V:=QR.map aiR
theorem ace {k:Nat} {r:abm} (h:QR[k]? = some r):ahU[k]? = some (aiR r):=by
 rw [ahU,zF,h];rfl
theorem ako {a:Int} (ha:1≤a∧a≤22):QR[a.toNat]? = some (J5 a):=by
 have hl:QR.length = 23:=rfl
 have hk:a.toNat < QR.length:=by omega
 rw [J5,if_pos ha,zq,ze hk,Option.getD_some]
def K5:=qd Proofs.Tryz.f125 []
def U3 (Γ:Env) (f:Nat):Prop:=EvC Γ f [] (.sl 2 ahU)
theorem afg {Γ:Env} {f:Nat} (h:Has Γ.P f 25 K5.1.1.ac K5.1.2) :U3 Γ f:=by
 refine Qn h zsi (by simp only [V.closed]) fun C hC hm=>?_
 subst hC
 simp only [K5,qd,DC.ac]
 refine zgo ?_;repeat' first|exact zt|apply zan|intro hc
 refine Qd _ rfl ?_;simp only [go_sem]
 rfl
def K6:=qd Proofs.Tryz.f61 []
def XW (Γ:Env) (f:Nat):Prop:=∀ (a:Int),EvN Γ f [V.int a] (V.int (J5 a).kind)
attribute [local go_sem] aiR in
theorem afh {Γ:Env} {f:Nat} (h:Has Γ.P f 14 K6.1.1.ac K6.1.2) (z0:U3 Γ 125):XW Γ f:=by
 intro a
 refine Qb h zsi zcl zcl fun C hC hm=>?_
 subst hC
 simp only [K6,qd,DC.ac]
 by_cases ha:1≤a∧a≤22
 ·have hg:=ace (ako ha)
  (have zx:=hg);refine zgo ?_;repeat' first|exact zt|apply zan|intro hc
  all_goals first|(refine Qd _ rfl ?_;simp only [go_sem];done)|(refine Qd _ rfl ?_;simp only [go_sem];simp [*];done)|(subst hc;refine Qd _ rfl ?_;simp only [go_sem];simp [*];done)
 ·have hc0:J5 a = alj:=by rw [J5,if_neg ha]
  refine zgo ?_;repeat' first|exact zt|apply zan|intro hc
  all_goals first|(refine Qd _ rfl ?_;simp only [go_sem];done)|(refine Qd _ rfl ?_;simp only [go_sem];simp [hc0,alj, *];done)|(subst hc;refine Qd _ rfl ?_;simp only [go_sem];simp [hc0,alj, *];done)
theorem anO (s:List UInt8):JR s 1 (QR.drop 1) = JR s 0 QR:=by rfl
def K7:=qd Proofs.Tryz.f197 []
def Vf (Γ:Env) (f:Nat):Prop:=∀ (s:List UInt8),EvN Γ f [V.str s] (V.int (JR s 0 QR))
attribute [local go_sem] aiR in
theorem afi {Γ:Env} {f:Nat} (h:Has Γ.P f 16 K7.1.1.ac K7.1.2) (z0:U3 Γ 125):Vf Γ f:=by
 intro s
 refine Qb h zsi zcl zcl fun C hC hm=>?_
 subst hC
 simp only [K7,qd,DC.ac]
 refine zgo ?_;repeat' first|exact zt|apply zan|intro hc
 refine Qp (ι:=Nat) (fun k=>1≤k∧k≤23∧JR s k (QR.drop k) = JR s 0 QR) (fun k=>[(3,V.int k)]) (fun k=>23 - k) 1 (by omega) ⟨by simp,by simp,anO s⟩ zol zlt zet fun k hk K' hL=>?_
 obtain ⟨hk1,hk,hinv⟩:=hk
 have hl:QR.length = 23:=rfl
 simp only [ovT,Je,Nat.reduceEqDiff,reduceIte]
 by_cases hk2:k = 23
 ·subst hk2
  refine zgo ?_;repeat' first|exact zt|apply zan|intro hc
  refine Qd _ rfl ?_;simp only [go_sem]
  rw [← hinv];rfl
 ·obtain ⟨r,hr⟩:∃ r,QR[k]? = some r:=⟨QR[k]'(by omega),ze (by omega)⟩
  have hg:=ace hr
  have hd:QR.drop k = r :: QR.drop (k + 1):=by
   rw [zM (by omega)]
   rw [ze (by omega)] at hr
   cases hr;rfl
  have hw:=Qc (k:=k) (by omega)
  rw [hd] at hinv
  (have zx:=za hg hw);refine zgo ?_;repeat' first|exact zt|apply zan|intro hc
  ·refine Qd _ rfl ?_;simp only [go_sem]
   rw [← hinv];simp [JR,hc];omega
  ·refine hL _ (k + 1) zet ⟨by omega,by omega,?_⟩ (by omega) zoe
   rw [← hinv,JR,if_neg (by first|omega|simp [hc])]
def Ki (b:Int):List Int→List Int→Int
 | x :: xs,y :: ys=>if x = b then y else Ki b xs ys
 | _,_=>0
def UU:=qd Proofs.Tryz.f238 []
def qZ (Γ:Env) (f:Nat):Prop:=∀ (b:Int) (xs ys:List Int) (hs:xs.length≤ys.length) (h2:xs.length < 2 ^ 62),EvN Γ f [V.int b,.sl 1 (xs.map V.int),.sl 1 (ys.map V.int)] (V.int (Ki b xs ys))
theorem adz {Γ:Env} {f:Nat} (h:Has Γ.P f 24 UU.1.1.ac UU.1.2) :qZ Γ f:=by
 intro b xs ys hs h2
 refine Qb h zsi zcl zcl fun C hC hm=>?_
 subst hC
 simp only [UU,qd,DC.ac]
 refine zgo ?_;repeat' first|exact zt|apply zan|intro hc
 refine Qp (ι:=Nat) (fun k=>k≤xs.length∧Ki b (xs.drop k) (ys.drop k) = Ki b xs ys) (fun k=>[(7,V.int k)]) (fun k=>xs.length - k) 0 (by omega) ⟨by simp,by simp⟩ zol zlt zet fun k hk K' hL=>?_
 obtain ⟨hk,hinv⟩:=hk
 simp only [ovT,Je,Nat.reduceEqDiff,reduceIte]
 rcases hd:xs.drop k with _|⟨x,r⟩
 ·have:=Qj hd
  rw [hd] at hinv
  refine zgo ?_;repeat' first|exact zt|apply zan|intro hc
  refine Qd _ rfl ?_;simp only [go_sem]
  rw [← hinv];simp [Ki]
 ·obtain ⟨hk',hget,hr⟩:=Qf hd
  rcases hd2:ys.drop k with _|⟨y,r2⟩
  ·have:=Qj hd2;omega
  ·obtain ⟨hk2,hget2,hr2⟩:=Qf hd2
   rw [hd,hd2] at hinv
   have hw:=Qc (k:=k) (by omega)
   (have zx:=za hget (za hget2 hw));refine zgo ?_;repeat' first|exact zt|apply zan|intro hc
   ·refine Qd _ rfl ?_;simp only [go_sem]
    rw [← hinv];simp [Ki,hc]
   ·refine hL _ (k + 1) zet ⟨by omega,?_⟩ (by omega) zoe
    rw [hr,hr2,← hinv,Ki,if_neg hc]
def wi (a:Int):Int:=if a = 1 then 18 else if a = 2 then 60 else if a = 3∨a = 8∨a = 21 then 128 else if a = 4 then 192 else if a = 18∨a = 22 then 256 else if a = 19 then 64 else if a = 20 then 80 else 0
def arc (b:Int):Int:=if b < 512∨16384 < b then 0 else ahD b ah7
def VS:=qd Proofs.Tryz.f239 []
def Ko (Γ:Env) (f:Nat):Prop:=∀ (a:Int),EvN Γ f [V.int a] (V.int (wi a))
theorem acy {Γ:Env} {f:Nat} (h:Has Γ.P f 21 VS.1.1.ac VS.1.2) :Ko Γ f:=by
 intro a
 refine Qb h zsi zcl zcl fun C hC hm=>?_
 subst hC
 simp only [VS,qd,DC.ac]
 refine zgo ?_;repeat' first|exact zt|apply zan|intro hc
 all_goals (refine Qd _ rfl ?_;simp only [go_sem];simp [wi, *])
def WR:=qd Proofs.Tryz.f237 []
def Uv (Γ:Env) (f:Nat):Prop:=∀ (b:Int),EvN Γ f [V.int b] (V.int (arc b))
theorem abC {Γ:Env} {f:Nat} (h:Has Γ.P f 25 WR.1.1.ac WR.1.2) :Uv Γ f:=by
 intro b
 refine Qb h zsi zcl zcl fun C hC hm=>?_
 subst hC
 simp only [WR,qd,DC.ac]
 refine zgo ?_;repeat' first|exact zt|apply zan|intro hc
 all_goals (refine Qd _ rfl ?_;simp only [go_sem];simp only [arc,ahD,ah7];repeat' split)<;>omega
def jB (a b:Int):Int :=
 if a = 5∨a = 6∨a = 10∨a = 11 then arc b
 else if a = 7∨a = 12 then (if b = 160∨b = 224∨b = 256∨b = 384∨b = 521 then IntKind.i64.wrap (b.tdiv 2) else 0)
 else if a = 9 then Ki b [44,65,87] [128,192,256]
 else if a = 13 then Ki b [512,768,1024] [128,192,256]
 else if a = 14 then Ki b [40,128] [40,60]
 else if a = 15 then Ki b [112,168] [80,112]
 else if a = 16∨a = 17 then Ki b [128,256] [128,256]
 else Ki b [0] [wi a]
theorem ajM (a:Int) (ha:¬ (1≤a∧a≤22)):wi a = 0:=by
 simp only [wi];repeat' split
 all_goals omega
theorem adg (a b:Int):jB a b = QG a b:=by
 by_cases ha:1≤a∧a≤22
 ·rcases (by omega:a = 1∨a = 2∨a = 3∨a = 4∨a = 5∨a = 6∨a = 7∨a = 8∨a = 9∨a = 10∨a = 11∨a = 12∨a = 13∨a = 14∨a = 15∨a = 16∨a = 17∨a = 18∨a = 19∨a = 20∨a = 21∨a = 22) with rfl|rfl|rfl|rfl|rfl|rfl|rfl|rfl|rfl|rfl|rfl|rfl|rfl|rfl|rfl|rfl|rfl|rfl|rfl|rfl|rfl|rfl
  all_goals simp [jB,QG,Ua,J5,QR,Ki,wi,Xu,arc]
  all_goals (repeat' split)<;>first|omega|rfl|simp_all
 ·have hs:=ajM a ha
  rw [QG,Ua,if_pos (by simp [ha])]
  simp only [jB]
  rw [if_neg (by omega),if_neg (by omega),if_neg (by omega),if_neg (by omega),if_neg (by omega),if_neg (by omega),if_neg (by omega),hs]
  simp [Ki]
def We:=qd Proofs.Tryz.f204 []
def XV (Γ:Env) (f:Nat):Prop:=∀ (a b:Int),EvN Γ f [.agg [V.int a,V.int b]] (V.int (QG a b))
theorem aay {Γ:Env} {f:Nat} (h:Has Γ.P f 76 We.1.1.ac We.1.2) (z0:Uv Γ 237) (z1:qZ Γ 238) (z2:Ko Γ 239):XV Γ f:=by
 intro a b
 refine Qb h zsi zcl zcl fun C hC hm=>?_
 subst hC
 simp only [We,qd,DC.ac]
 rw [← adg]
 have k1:=z1 b [44,65,87] [128,192,256] (by simp) (by simp)
 have k2:=z1 b [512,768,1024] [128,192,256] (by simp) (by simp)
 have k3:=z1 b [40,128] [40,60] (by simp) (by simp)
 have k4:=z1 b [112,168] [80,112] (by simp) (by simp)
 have k5:=z1 b [128,256] [128,256] (by simp) (by simp)
 have k6:=z1 b [0] [wi a] (by simp) (by simp)
 (have zy0:=k1.b;have zy1:=k2.b;have zy2:=k3.b;have zy3:=k4.b;have zy4:=k5.b;have zy5:=k6.b);refine zgo ?_;repeat' first|exact zt|apply zan|intro hc
 all_goals (refine Qd _ rfl ?_;simp only [go_sem];simp [jB, *])
def UV:=qd Proofs.Tryz.f169 []
def V6 (Γ:Env) (f:Nat):Prop:=∀ (a b:Int),EvN Γ f [.agg [V.int a,V.int b]] (V.bool (decide (QG a b > 0)))
theorem adA {Γ:Env} {f:Nat} (h:Has Γ.P f 6 UV.1.1.ac UV.1.2) (z0:XV Γ 204):V6 Γ f:=by
 intro a b
 refine Qb h zsi zcl zcl fun C hC hm=>?_
 subst hC
 simp only [UV,qd,DC.ac]
 refine zgo ?_;repeat' first|exact zt|apply zan|intro hc
 refine Qd _ rfl ?_;simp only [go_sem]
end Av
end
