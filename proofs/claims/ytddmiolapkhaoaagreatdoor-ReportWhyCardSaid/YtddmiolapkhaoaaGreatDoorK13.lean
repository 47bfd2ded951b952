/- Slices of bytes. -/
import Derived.Test.YtddmiolapkhaoaaGreatDoorK12
import Derived.Test.YtddmiolapkhaoaaGreatDoorK9
import Derived.Test.YtddmiolapkhaoaaGreatDoorK11
set_option linter.unusedVariables false
set_option linter.unusedSimpArgs false
section
set_option maxRecDepth 10000
set_option maxHeartbeats 4000000
namespace Av
open Go
attribute [local irreducible] AWp U3 abh acE awS awC ajc awQ ajv Jo jG aiB awR yv awB okR ad1 ris
def UX:AC:=Qb [0] (.reg [xo 2 (.mknil 1)]) (Qb [0] (Qb [0,4] (.reg [mv 3 0,xo 4 (.isnil false (.t 3))]) (.cond (.t 4) (Qb [2] (.reg [xo 2 (.mknil 1)]) .ret) .skip)) (Qb [2] (.reg [xo 5 (.bslice 0 1 false [vi0] []),mv 6 0,xo 7 (.append 1 8 [vi0] (.t 5) (.t 6)),mv 2 7]) .ret)) def bY:List Q0:=[.tmp 2]
def Xk (Γ:Env) (f:Nat):Prop:=∀ (l:List Int) (hl:l.length < 2 ^ 34),EvW Γ f [.sl 1 (l.map V.int)] 1 (l.map V.int)
theorem vE {Γ:Env} {f:Nat} (h:Has Γ.P f 8 UX bY) :Xk Γ f:=by
 intro l hl
 refine UD h (by simp) (by first|exact aos _|exact anP _) fun C hC hm=>?_
 subst hC
 unfold UX
 rcases l with _|⟨x,r⟩
 ·repeat' (first|(refine zsk ?_;intro K' hK)|refine zsp ?_|(refine zsc ?_ ?_<;>intro hc<;>first|exact znh|try simp only [znz] at hc)|simp (maxSteps:=1000000) only [go_sem]|(refine hK _ ?_;clear hK K')|apply zan|exact zsq|fail)
  intro t
  rcases t with _|_
  ·repeat' (first|(refine zsk ?_;intro K' hK)|refine zsp ?_|(refine zsc ?_ ?_<;>intro hc<;>first|exact znh|try simp only [znz] at hc)|simp (maxSteps:=1000000) only [go_sem]|(refine hK _ ?_;clear hK K')|apply zan|exact zsq|fail)
   all_goals (refine acb (xs:=[]) _ _ rfl ?_ ?_<;>first|rfl|(simp;done))
  ·repeat' (first|(refine zsk ?_;intro K' hK)|refine zsp ?_|(refine zsc ?_ ?_<;>intro hc<;>first|exact znh|try simp only [znz] at hc)|simp (maxSteps:=1000000) only [go_sem]|(refine hK _ ?_;clear hK K')|apply zan|exact zsq|fail)
   all_goals (refine acb (xs:=[]) _ _ rfl ?_ ?_<;>first|rfl|(simp;done))
 ·repeat' (first|(refine zsk ?_;intro K' hK)|refine zsp ?_|(refine zsc ?_ ?_<;>intro hc<;>first|exact znh|try simp only [znz] at hc)|simp (maxSteps:=1000000) only [go_sem]|(refine hK _ ?_;clear hK K')|apply zan|exact zsq|fail)
  all_goals first
   | (simp only [zd,List.length_cons] at hl ⊢;omega)
   | (refine acb (xs:=V.int x :: List.map V.int r) _ _ rfl ?_ ?_<;>first|rfl|(simp;done))
def Vx (l:List Int) (k:Nat):List V:=[.sl 1 (l.map V.int),V.int k]
theorem aig (l:List Int) (k:Nat):Qh (Vx l k):=by simp only [Vx,V.closed,Qh,and_self]
def YA (l:List Int) (k:Nat) (n:Int):Int×Nat:=if k < l.length then (awV (l.getD k 0) n,k + 1) else (0,k)
theorem Uh {l:List Int} {k:Nat} {n:Int} (hk:k≤l.length):(YA l k n).2≤l.length:=by
 unfold YA;split
 ·show k + 1≤l.length;omega
 ·exact hk
theorem asp {a n:Int} (h1:1≤n) (h2:n < 2 ^ 62):0≤awV a n∧awV a n < n:=by
 unfold awV
 rw [if_neg (by omega)]
 have ha:=Int.tmod_lt_of_pos a (show 0 < n by omega)
 have hb:-n < a.tmod n:=by
  have:=Int.tmod_lt_of_pos (-a) (show 0 < n by omega)
  rw [Int.neg_tmod] at this;omega
 rw [Q7 (by omega) (by omega)]
 exact ⟨Int.tmod_nonneg _ (by omega),Int.tmod_lt_of_pos _ (by omega)⟩
theorem Jf {l:List Int} {k:Nat} {n:Int} (h1:1≤n) (h2:n < 2 ^ 62):0≤(YA l k n).1∧(YA l k n).1 < n:=by
 unfold YA;split
 ·exact asp h1 h2
 ·show (0:Int)≤0∧(0:Int) < n;omega
def aiw:AC:=Qb [0] (.reg [mc 2 (V.bool false)]) (Qb [2] (.reg [mv 3 0,ln 4 3,bc 5 .leq 4 (V.int 400),mv 2 5]) .ret) def bZ:List Q0:=[.tmp 2]
def abT (Γ:Env) (f:Nat):Prop:=∀ (l:List Int),EvN Γ f [.sl 1 (l.map V.int)] (V.bool (decide ((l.length:Int)≤400)))
attribute [local go_sem] zd in
theorem am9 {Γ:Env} {f:Nat} (h:Has Γ.P f 6 aiw bZ) :abT Γ f:=by
 intro l
 refine Qc h zsi zcl zcl fun C hC hm=>?_
 subst hC
 unfold aiw
 refine zgo ?_;repeat' first|exact zt|apply zan|intro hc
 refine Qr _ rfl ?_;simp only [go_sem]
def akM:AC:=Qb [0] (.reg [mc 2 (.sc (.pointer none))]) (Qb [2] (.reg [mv 3 0,xo 4 (.build [vn0,vi0] [(0,1,(.t 3))]),xo 5 (.box true 2 (.t 4)),mv 2 5]) .ret) def cd:List Q0:=[.tmp 2]
def adW (Γ:Env) (f:Nat):Prop:=∀ (l:List Int),EvR Γ f [.sl 1 (l.map V.int)] (Vx l 0)
theorem aoS {Γ:Env} {f:Nat} (h:Has Γ.P f 6 akM cd) :adW Γ f:=by
 intro l
 refine akt h (by simp) (by simp only [Vx,V.closed,Qh,and_self]) fun C hC hm=>?_
 subst hC
 unfold akM
 refine zgo ?_;repeat' first|exact zt|apply zan|intro hc
 refine aw2 _ rfl rfl (by simp only [Vx,V.closed,Qh,and_self])
def xz:List (List Nat):=[[],[0],[1],[2],[],[4],[5],[6],[7],[3,8]]
def yH:OT:=och 0 10
@[go_sem] def Uy:OP:=oN 0 (mv 5 0) (oN 1 (nk 6 5) (oN 2 (fa 7 1 6) (oN 3 (ld 8 1 7) (oN 4 (mv 9 0) (oN 5 (nk 10 9) (oN 6 (fa 11 0 10) (oN 7 (ld 12 1 11) (oN 8 (ln 13 12) (oN 9 (bn 14 .geq 8 13) .done)))))))))
def yW:List AO:=aoO (Uy)
instance:RG [] yH (Uy) (yW) xz 10 (fun _=>true):=⟨rfl,by kernel_rfl,by kernel_rfl⟩
def xy:List (List Nat):=[[],[0],[1],[2],[],[4],[5],[6],[7],[3,8],[9],[],[10,11],[12,12,0,1,2,3,4,5,6,7,8,9,10,11,12]]
def yG:OT:=och 0 14
@[go_sem] def Ux (Wg:Nat):OP:=oN 0 (mv 22 0) (oN 1 (nk 23 22) (oN 2 (fa 24 0 23) (oN 3 (ld 25 1 24) (oN 4 (mv 26 0) (oN 5 (nk 27 26) (oN 6 (fa 28 1 27) (oN 7 (ld 29 1 28) (oN 8 (bc 30 .sub 29 (V.int 1)) (oN 9 (ia 31 1 25 30) (oN 10 (ld 32 1 31) (oN 11 (mv 33 1) (oN 12 (cl 34 Wg [32,33]) (oN 13 (mv 4 34) .done)))))))))))))
def yV (Wg:Nat):List AO:=aoO (Ux Wg)
instance (Wg:Nat):RG [] yG (Ux Wg) (yV Wg) xy 14 (fun _=>true):=⟨rfl,by kernel_rfl,by kernel_rfl⟩
def aaH (Wg:Nat):AC:=Qb [0,1] (.reg [mc 4 (V.int 0)]) (Qb [0,1] (Qb [0,1,14] (VD [] yH (Uy) (yW) xz) (.cond (.t 14) (Qb [4] (.reg [mc 4 (V.int 0)]) .ret) .skip)) (Qb [0,1] (.reg [mv 15 0,nk 16 15,fa 17 1 16,ld 18 1 17,bc 19 .add 18 (V.int 1),nk 20 15,fa 21 1 20,xs 1 21 19]) (Qb [4] (VD [] yG (Ux Wg) (yV Wg) xy) .ret))) def ce:List Q0:=[.tmp 4]
def YI (Γ:Env) (f:Nat):Prop:=∀ (l:List Int) (k:Nat) (n:Int) (hl:l.length≤400) (hk:k≤l.length),EvD Γ f [V.int n] (Vx l k) (V.int (YA l k n).1) (Vx l (YA l k n).2)
attribute [local go_sem] Vx in
theorem af8 {Γ:Env} {f Wg:Nat} (h:Has Γ.P f 35 (aaH Wg) ce) (z0:afv Γ Wg):YI Γ f:=by
 intro l k n hl hk
 refine UE h zsi zcl zc3 zc3 fun C hC hm=>?_
 subst hC
 unfold aaH
 by_cases h1:k < l.length
 ·have e1:decide ((k:Int)≥(((l.map V.int).length:Nat):Int)) = false:=by simp;omega
  have hget:l[k]? = some (l.getD k 0):=by simp [zB,zb h1]
  have hw:=Qq (k:=k) (by omega)
  have hw2:IntKind.i64.wrap (((k + 1:Nat):Int) - 1) = (k:Int):=by rw [Q7 (by omega) (by omega)];omega
  have hn:YA l k n = (awV (l.getD k 0) n,k + 1):=by rw [YA,if_pos h1]
  rw [hn]
  (have zx:=za e1 (za hw (za hw2 hget)));refine zgo ?_;repeat' first|exact zt|apply zan|intro hc
  all_goals (refine aie _ rfl rfl zcd ?_;simp only [go_sem])
 ·have e1:decide ((k:Int)≥(((l.map V.int).length:Nat):Int)) = true:=by simp;omega
  have hn:YA l k n = (0,k):=by rw [YA,if_neg h1]
  rw [hn]
  (have zx:=e1);refine zgo ?_;repeat' first|exact zt|apply zan|intro hc
  all_goals (refine aie _ rfl rfl zcd ?_;simp only [go_sem])
def ofD (l:List Int) (k:Nat) (xs:List Int):Int×Nat:=(xs.getD (YA l k xs.length).1.toNat 0,(YA l k xs.length).2)
theorem apU {l:List Int} {k:Nat} {xs:List Int} (h:xs≠[]) (h2:xs.length < 2 ^ 62):(ofD l k xs).1∈xs:=by
 have h1:1≤xs.length:=by cases xs with|nil=>exact (h rfl).elim|cons _ _=>simp
 have:=Jf (l:=l) (k:=k) (n:=xs.length) (by omega) (by omega)
 have hk:(YA l k xs.length).1.toNat < xs.length:=by omega
 unfold ofD
 simp only [zB,zb hk,Option.getD_some]
 exact zT hk
theorem alT {l:List Int} {k:Nat} {xs:List Int} (hk:k≤l.length):(ofD l k xs).2≤l.length:=Uh hk
def adn (Ql:Nat):AC:=Qb [0,1] (.reg [mc 4 (V.int 0)]) (Qb [4] (.reg [mv 5 1,mv 6 0,mv 7 1,ln 8 7,cl 9 Ql [6,8],ia 10 1 5 9,ld 11 1 10,mv 4 11]) .ret) def cf:List Q0:=[.tmp 4]
def jO (Γ:Env) (f:Nat):Prop:=∀ (l:List Int) (k:Nat) (xs:List Int) (hl:l.length≤400) (hk:k≤l.length) (hx:1≤xs.length) (hx2:xs.length < 2 ^ 62),EvD Γ f [.sl 1 (xs.map V.int)] (Vx l k) (V.int (ofD l k xs).1) (Vx l (ofD l k xs).2)
attribute [local go_sem] zd Vx in
theorem ai1 {Γ:Env} {f Ql:Nat} (h:Has Γ.P f 12 (adn Ql) cf) (z0:YI Γ Ql):jO Γ f:=by
 intro l k xs hl hk hx hx2
 refine UE h zsi zcl zc3 zc3 fun C hC hm=>?_
 subst hC
 unfold adn
 have hr:=Jf (l:=l) (k:=k) (n:=xs.length) (by omega) (by omega)
 have hget:xs[(YA l k xs.length).1.toNat]? = some (ofD l k xs).1:=by
  have hk:(YA l k xs.length).1.toNat < xs.length:=by omega
  simp [ofD,zB,zb hk]
 have hn:=z0 l k xs.length hl hk
 have e2:Vx l (ofD l k xs).2 = Vx l (YA l k xs.length).2:=rfl
 rw [e2]
 simp only [Vx] at hn
 (have zx:=hget);refine zgo ?_;repeat' first|exact zt|apply zan|intro hc
 refine aie _ rfl rfl zcd ?_;simp only [go_sem]
def acz (l:List Int) (k:Nat) (xs:List (List UInt8)):List UInt8×Nat:=(xs.getD (YA l k xs.length).1.toNat [],(YA l k xs.length).2)
theorem ajz {l:List Int} {k:Nat} {xs:List (List UInt8)} (h1:1≤xs.length) (h2:xs.length < 2 ^ 62):(acz l k xs).1∈xs:=by
 have:=Jf (l:=l) (k:=k) (n:=xs.length) (by omega) (by omega)
 have hk:(YA l k xs.length).1.toNat < xs.length:=by omega
 unfold acz
 simp only [zB,zb hk,Option.getD_some]
 exact zT hk
theorem afz {l:List Int} {k:Nat} {xs:List (List UInt8)} (hk:k≤l.length):(acz l k xs).2≤l.length:=Uh hk
def aaG (Ql:Nat):AC:=Qb [0,1] (.reg [mc 4 (V.str [])]) (Qb [4] (.reg [mv 5 1,mv 6 0,mv 7 1,ln 8 7,cl 9 Ql [6,8],ia 10 1 5 9,ld 11 1 10,mv 4 11]) .ret) def cg:List Q0:=[.tmp 4]
def KJ (Γ:Env) (f:Nat):Prop:=∀ (l:List Int) (k:Nat) (xs:List (List UInt8)) (hl:l.length≤400) (hk:k≤l.length) (hx:1≤xs.length) (hx2:xs.length < 2 ^ 62),EvD Γ f [.sl 1 (xs.map V.str)] (Vx l k) (V.str (acz l k xs).1) (Vx l (acz l k xs).2)
attribute [local go_sem] zd Vx in
theorem af7 {Γ:Env} {f Ql:Nat} (h:Has Γ.P f 12 (aaG Ql) cg) (z0:YI Γ Ql):KJ Γ f:=by
 intro l k xs hl hk hx hx2
 refine UE h zsi zcl zc3 zc3 fun C hC hm=>?_
 subst hC
 unfold aaG
 have hr:=Jf (l:=l) (k:=k) (n:=xs.length) (by omega) (by omega)
 have hget:xs[(YA l k xs.length).1.toNat]? = some (acz l k xs).1:=by
  have hk:(YA l k xs.length).1.toNat < xs.length:=by omega
  simp [acz,zB,zb hk]
 have hn:=z0 l k xs.length hl hk
 have e2:Vx l (acz l k xs).2 = Vx l (YA l k xs.length).2:=rfl
 rw [e2]
 simp only [Vx] at hn
 (have zx:=hget);refine zgo ?_;repeat' first|exact zt|apply zan|intro hc
 refine aie _ rfl rfl zcd ?_;simp only [go_sem]
def awU:List (List UInt8):=[[101,99,100,104,101],[118,51],[104,105,103,104],[114,115,97],[97,101,97,100]]
theorem axh (s:List UInt8):(azt s).2 = (aey 43 s).all ara:=by
 unfold azt;split
 ·rename_i h;rw [h]
 ·rename_i h;simpa using h
structure aiG (s:List UInt8):Prop where
 colon:(58:UInt8) ∉ s
 known:(aey 43 s).all ara = true
 head:∃ c r,s = c :: r∧c≠45∧c≠33∧c≠43∧c≠64
def apY (s:List UInt8):Bool:=!s.contains 58 && (aey 43 s).all ara && (match s with|c :: _=>c != 45 && c != 33 && c != 43 && c != 64|[]=>false)
theorem at5 {s:List UInt8} (h:apY s = true):aiG s:=by
 simp only [apY,zo,Zh] at h
 refine ⟨by simpa using h.1.1,h.1.2,?_⟩
 have h3:=h.2
 cases s with
 | nil=>simp at h3
 | cons c r=>simp at h3;exact ⟨c,r,rfl,h3.1.1.1,h3.1.1.2,h3.1.2,h3.2⟩
theorem at4:∀ x∈awU,apY x = true:=by decide
theorem aiG.join {s t:List UInt8} (hs:aiG s) (ht:t∈awU):aiG (s++[43]++t):=by
 have h2:=at5 (at4 t ht)
 refine ⟨?_,?_,?_⟩
 ·simp only [zW,zq,not_or];exact ⟨⟨hs.colon,by decide⟩,h2.colon⟩
 ·rw [ag5,List.all_append,hs.known,h2.known];rfl
 ·obtain ⟨c,r,rfl,h⟩:=hs.head
  exact ⟨c,r++[43]++t,by simp,h⟩
theorem aiG.sign {s:List UInt8} (h:aiG s):axf s = (0,s):=by
 obtain ⟨c,r,rfl,h1,h2,h3,_⟩:=h.head
 rw [axf,if_neg (by simp [h1,h2,h3])]
theorem aiG.okW {s:List UInt8} (h:aiG s):wordOk s = true:=by rw [Av.wordOk,h.sign,axh,h.known,ZY]
structure arV (s:List UInt8) (n:Nat):Prop where
 few:s≠[]→(aey 58 s).length≤n
 ok:s≠[]→∀ w∈aey 58 s,wordOk w = true
theorem arV.app {s t:List UInt8} {n m:Nat} (hs:arV s n) (ht:arV t m) (h1:s≠[]) (h2:t≠[]):arV (s++[58]++t) (n + m):=by
 refine ⟨fun _=>?_,fun _ x hx=>?_⟩
 ·have:=hs.few h1;have:=ht.few h2;rw [ag5];simp;omega
 ·rw [ag5] at hx
  rcases zW.1 hx with hx|hx
  ·exact hs.ok h1 x hx
  ·exact ht.ok h2 x hx
end Av
end
section
namespace Av
open Go
end Av
end
section
set_option maxRecDepth 10000
set_option maxHeartbeats 4000000
namespace Av
open Go
attribute [local irreducible] AWp U3 abh acE awS awC ajc awQ ajv Jo jG aiB awR yv awB okR ad1 ris
end Av
end
section
namespace Av
open Go
def LeV (x y:V):Prop:=∀ (w:World) (Z:Nat→Nat→Prop) (μ:Nat→Option Cn) (v:Value),Rep w Z μ v x→Rep w Z μ v y
theorem LeV.refl (x:V):LeV x x:=fun _ _ _ _ h=>h
theorem LeV.nil (sz:Nat):LeV (.sc (.slice none 0 0)) (.sl sz []):=fun _ _ _ _ h=>by cases h;exact .sl0
theorem LeV.agg {xs ys:List V} (hl:xs.length = ys.length) (h:∀ j (h1:j < xs.length) (h2:j < ys.length),LeV xs[j] ys[j]):LeV (.agg xs) (.agg ys):=fun w Z μ v hv=>by
 cases hv with
 | agg h1 h2 h3=>exact .agg (h1.trans hl) h2 fun j hj hj'=>h j (by omega) hj _ _ _ _ (h3 j (by omega) hj')
theorem EvB.le {Γ:Env} {f:FuncId} {args args':List V} {res:V} {B:Option (List Nat)} (h:EvB Γ f args res B) (hl:args'.length = args.length)
  (hr:∀ i (h1:i < args'.length) (h2:i < args.length),LeV args'[i] args[i]):EvB Γ f args' res B :=
 ⟨fun C cargs h1 h2 h3 h4 h5 h6 h7=>h.ev C cargs h1 h2 h3 h4 h5 (h6.trans hl) fun i hi hi'=>hr i (by omega) hi _ _ _ _ (h7 i (by omega) hi'),h.cl,h.sh⟩
theorem EvB.le2 {Γ:Env} {f:FuncId} {x y x' y':V} {res:V} {B:Option (List Nat)} (h:EvB Γ f [x,y] res B) (h1:LeV x' x) (h2:LeV y' y):EvB Γ f [x',y'] res B :=
 h.le rfl fun i hi hi'=>by
  match i,hi with
  | 0,_=>exact h1
  | 1,_=>exact h2
section
variable {Γ:Env} {A W:Nat→Bool} {b:Nat} {s:St} {d:Option Nat} {f:FuncId} {acts:List V} {res:V} {J:St→Prop} {cs cs2:List V} {a:Nat}
theorem ay9 (l:List Nat) (hA:A a = true) (hW:W a = true) (ha:s.o a = some (.box true cs)) (h:EvD Γ f (Y2 (Yl A s.o) acts) cs res cs2) (hc:QL (Yl A s.o) (some l) acts) (hal:a ∉ l) (hl:∀ x∈l,A x = true∧W x = true) (hab:a < b)
  (hk:J { t:=(s.put d res).t,o:=upd (xO (some l) [a] s.o) a (some (.box true cs2)),n:=s.n }):Jo Γ A W b s d f (.ptr a 0 :: acts) J:=by
 have hra:Yl A s.o a = some (.box true cs):=by rw [yD,if_pos hA,ha]
 refine ⟨_,_,_,_,[a],some l,h.ev,⟨?_,Yn _ [a] l ?_ acts hc⟩,⟨⟨_,hra,Yq _ _ _ _ h.c1⟩,trivial⟩,by simp,by simpa using ⟨hab,hW⟩,zl _,by simp [KK],fun h=>by simp at h,fun l' hl'=>by cases hl';exact hl,?_⟩
 ·simp [conv]
 ·intro x hx hxa
  simp only [zq] at hxa
  subst hxa;exact hal hx
 ·rw [Wh _ _ h.cl]
  simp only [Xe,Yy,Ob.ren,J7 _ _ h.c2]
  exact hk
theorem abC {x:V} {args:List V} {okf:Option (List Nat)→Prop} (ha:s.o a = some (.box true cs)) (hA:A a = true) (hW:W a = true) (h:EvD Γ f args cs res cs2) (hal:(JD acts).contains a = false) (hab:decide (a < b) = true) (hl:((JD acts).all fun x=>A x && W x) = true) (hc:QL (Yl A s.o) (some (JD acts)) acts)
  (hk:J { t:=(s.put d res).t,o:=upd (xO (some (JD acts)) [a] s.o) a (some (.box true cs2)),n:=s.n }):ahB Γ A W b s d f (.ptr a 0 :: acts) (x :: args) okf J:=by
 intro h1 _
 simp only [Y2,km] at h1
 obtain ⟨_,rfl⟩:=h1
 exact ay9 _ hA hW ha h hc (by simpa using hal) (fun x hx=>by simpa using kH.1 hl x hx) (zV hab) hk
end
end Av
end
section
namespace Av
open Go
section
variable {Γ:Env} {b:Nat} {r:List AO} {s:St} {d:Option Nat} {f g:FuncId} {acts args:List V} {okf:Option (List Nat)→Prop} {res x:V} {K:St→Prop} {cs cs2 ds ds2:List V} {a e off:Nat}
end
section
variable {Γ:Env} {b:Nat} {r:List AO} {s:St} {d:Option Nat} {f:FuncId} {acts args:List V} {okf:Option (List Nat)→Prop} {res:V} {K:St→Prop} {xs ys:List V} {a p n sz:Nat}
end
end Av
end
section
namespace Av
open Go
abbrev byV (l:List UInt8):List V:=l.map fun c=>V.sc (.int .u8 c.toNat)
abbrev as5:V:=.sc (.pointer none)
abbrev v8:V:=.sc (.slice none 0 0)
abbrev bX (Γ:Env) (a0 x:V):Ob:=.typ (aw4 Γ.P) (.box true [a0,x])
abbrev bB (Γ:Env) (l:List UInt8):Ob:=.typ (ayZ Γ.P) (.buf true 1 (byV l))
structure BCF (Γ:Env) (f:FuncId):Prop where
 ev:Ev Γ f [.ptr 0 0] [bX Γ as5 v8] (.tup []) [bX Γ (.ptr 0 0) v8]
structure BCU (Γ:Env) (f:FuncId) (l:List UInt8):Prop where
 ev:Ev Γ f [.ptr 0 0] [bX Γ (.ptr 0 0) (.hd 1 0 l.length),bB Γ l] (.tup []) [bX Γ (.ptr 0 0) (.hd 1 0 l.length),bB Γ l]
structure BWF (Γ:Env) (f:FuncId) (s:List UInt8):Prop where
 ev:Ev Γ f [.ptr 0 0,V.str s] [bX Γ as5 v8] (.tup [V.int s.length,.sc .nilIface]) [bX Γ (.ptr 0 0) (.hd 1 0 s.length),bB Γ s]
structure BWU (Γ:Env) (f:FuncId) (l s:List UInt8):Prop where
 ev:Ev Γ f [.ptr 0 0,V.str s] [bX Γ (.ptr 0 0) (.hd 1 0 l.length),bB Γ l] (.tup [V.int s.length,.sc .nilIface]) [bX Γ (.ptr 0 0) (.hd 2 0 (l++s).length),.dead,bB Γ (l++s)]
structure BSF (Γ:Env) (f:FuncId):Prop where
 ev:Ev Γ f [.ptr 0 0] [bX Γ as5 v8] (V.str []) [.dead]
structure BSU (Γ:Env) (f:FuncId) (l:List UInt8):Prop where
 ev:Ev Γ f [.ptr 0 0] [bX Γ (.ptr 0 0) (.hd 1 0 l.length),bB Γ l] (V.str l) [.dead,.dead]
section
variable {Γ:Env} {A W:Nat→Bool} {b:Nat} {r:List AO} {s:St} {d:Option Nat} {f:FuncId} {args:List V} {okf:Option (List Nat)→Prop} {J K:St→Prop} {a p n:Nat} {l t:List UInt8}
theorem avQ {o:Nat→Option Ob} {br:List Nat} {B:Option (List Nat)} (ha:o a = some (bX Γ as5 v8)):∃ x,o a = some x∧ani o br B x (bX Γ as5 v8):=⟨_,ha,rfl,by show Jn _ _ _ _ _;simp [Jn,conv]⟩
theorem avP {o:Nat→Option Ob} {B:Option (List Nat)} (ha:o a = some (bX Γ (.ptr a 0) (.hd p 0 n))):∃ x,o a = some x∧ani o [a,p] B x (bX Γ (.ptr 0 0) (.hd 1 0 n)):=⟨_,ha,rfl,by show Jn _ _ _ _ _;simp [Jn,conv]⟩
theorem avR {o:Nat→Option Ob} {br:List Nat} {B:Option (List Nat)} (ha:o p = some (bB Γ l)):∃ x,o p = some x∧ani o br B x (bB Γ l):=⟨_,ha,rfl,rfl,rfl⟩
theorem au5 (ha:s.o a = some (bX Γ as5 v8)) (h:BCF Γ f) (hab:decide (a < b) = true)
  (hk:U3 Γ (b + KK) r { t:=(s.put d (.tup [])).t,o:=upd s.o a (some (bX Γ (.ptr a 0) v8)),n:=s.n } K):akO Γ b r s d f [.ptr a 0] args okf K:=fun _ _=>by
 refine J5 ⟨_,_,_,_,[a],some [],h.ev,⟨by simp [conv],trivial⟩,⟨avQ ha,trivial⟩,by simp,by simpa using zV hab,by simp,by simp [KK],fun h=>by simp at h,?_⟩
 simp only [Xe,Yy,Ob.ren,K3,V.ren,sig,apw]
 exact hk
theorem au4 (ha:s.o a = some (bX Γ (.ptr a 0) (.hd p 0 n))) (hp:s.o p = some (bB Γ l)) (h:BCU Γ f l) (hd:decide (a≠p∧a < b∧p < b) = true) (hn:n = l.length)
  (hk:U3 Γ (b + KK) r { t:=(s.put d (.tup [])).t,o:=upd (upd s.o p (some (bB Γ l))) a (some (bX Γ (.ptr a 0) (.hd p 0 n))),n:=s.n } K):akO Γ b r s d f [.ptr a 0] args okf K:=fun _ _=>by
 subst hn
 obtain ⟨e1,e2,e3⟩:=zV hd
 refine J5 ⟨_,_,_,_,[a,p],some [],h.ev,⟨by simp [conv],trivial⟩,⟨avP ha,avR hp,trivial⟩,by simpa using e1,?_,by simp,by simp [KK],fun h=>by simp at h,?_⟩
 ·intro y hy
  simp only [zy,zC,or_false] at hy
  rcases hy with rfl|rfl<;>assumption
 simp only [Xe,Yy,Ob.ren,K3,V.ren,sig,apw]
 exact hk
theorem auZ (ha:s.o a = some (bX Γ as5 v8)) (h:BWF Γ f t) (hab:decide (a < b) = true)
  (hk:U3 Γ (b + KK) r { t:=(s.put d (.tup [V.int t.length,.sc .nilIface])).t,o:=upd (upd s.o b (some (bB Γ t))) a (some (bX Γ (.ptr a 0) (.hd b 0 t.length))),n:=s.n } K):akO Γ b r s d f [.ptr a 0,V.str t] args okf K:=fun _ _=>by
 refine J5 ⟨_,_,_,_,[a],some [],h.ev,⟨by simp [conv],by simp [conv],trivial⟩,⟨avQ ha,trivial⟩,by simp,by simpa using zV hab,by simp,by simp [KK],fun h=>by simp at h,?_⟩
 simp only [Xe,Yy,Ob.ren,K3,V.ren,sig,apw]
 exact hk
theorem auY (ha:s.o a = some (bX Γ (.ptr a 0) (.hd p 0 n))) (hp:s.o p = some (bB Γ l)) (h:BWU Γ f l t) (hd:decide (a≠p∧a < b∧p < b) = true) (hn:n = l.length)
  (hk:U3 Γ (b + KK) r { t:=(s.put d (.tup [V.int t.length,.sc .nilIface])).t,o:=upd (upd (upd s.o b (some (bB Γ (l++t)))) p (some .dead)) a (some (bX Γ (.ptr a 0) (.hd b 0 (l++t).length))),n:=s.n } K):akO Γ b r s d f [.ptr a 0,V.str t] args okf K:=fun _ _=>by
 subst hn
 obtain ⟨e1,e2,e3⟩:=zV hd
 refine J5 ⟨_,_,_,_,[a,p],some [],h.ev,⟨by simp [conv],by simp [conv],trivial⟩,⟨avP ha,avR hp,trivial⟩,by simpa using e1,?_,by simp,by simp [KK],fun h=>by simp at h,?_⟩
 ·intro y hy
  simp only [zy,zC,or_false] at hy
  rcases hy with rfl|rfl<;>assumption
 simp only [Xe,Yy,Ob.ren,K3,V.ren,sig,apw]
 exact hk
theorem au2 (ha:s.o a = some (bX Γ as5 v8)) (h:BSF Γ f) (hab:decide (a < b) = true)
  (hk:U3 Γ (b + KK) r { t:=(s.put d (V.str [])).t,o:=upd s.o a (some .dead),n:=s.n } K):akO Γ b r s d f [.ptr a 0] args okf K:=fun _ _=>by
 refine J5 ⟨_,_,_,_,[a],some [],h.ev,⟨by simp [conv],trivial⟩,⟨avQ ha,trivial⟩,by simp,by simpa using zV hab,by simp,by simp [KK],fun h=>by simp at h,?_⟩
 simp only [Xe,Yy,Ob.ren,K3,V.ren,sig,apw]
 exact hk
theorem au1 (ha:s.o a = some (bX Γ (.ptr a 0) (.hd p 0 n))) (hp:s.o p = some (bB Γ l)) (h:BSU Γ f l) (hd:decide (a≠p∧a < b∧p < b) = true) (hn:n = l.length)
  (hk:U3 Γ (b + KK) r { t:=(s.put d (V.str l)).t,o:=upd (upd s.o p (some .dead)) a (some .dead),n:=s.n } K):akO Γ b r s d f [.ptr a 0] args okf K:=fun _ _=>by
 subst hn
 obtain ⟨e1,e2,e3⟩:=zV hd
 refine J5 ⟨_,_,_,_,[a,p],some [],h.ev,⟨by simp [conv],trivial⟩,⟨avP ha,avR hp,trivial⟩,by simpa using e1,?_,by simp,by simp [KK],fun h=>by simp at h,?_⟩
 ·intro y hy
  simp only [zy,zC,or_false] at hy
  rcases hy with rfl|rfl<;>assumption
 simp only [Xe,Yy,Ob.ren,K3,V.ren,sig,apw]
 exact hk
theorem amo {o:Nat→Option Ob} {x:Ob} (ha:o a = some x) (hA:A a = true):Yl A o a = some x:=by rw [yD,if_pos hA,ha]
theorem arR (ha:s.o a = some (bX Γ as5 v8)) (hA:A a = true) (hW:W a = true) (h:BWF Γ f t) (hab:decide (a < b) = true)
  (hk:J { t:=(s.put d (.tup [V.int t.length,.sc .nilIface])).t,o:=upd (upd s.o b (some (bB Γ t))) a (some (bX Γ (.ptr a 0) (.hd b 0 t.length))),n:=s.n }):ahB Γ A W b s d f [.ptr a 0,V.str t] args okf J:=fun _ _=>by
 refine ⟨_,_,_,_,[a],some [],h.ev,⟨by simp [conv],by simp [conv],trivial⟩,⟨avQ (amo ha hA),trivial⟩,by simp,by simpa using ⟨zV hab,hW⟩,by simp,by simp [KK],fun h=>by simp at h,fun l h x hx=>(by cases h;cases hx),?_⟩
 simp only [Xe,Yy,Ob.ren,K3,V.ren,sig,apw]
 exact hk
theorem arQ (ha:s.o a = some (bX Γ (.ptr a 0) (.hd p 0 n))) (hp:s.o p = some (bB Γ l)) (hA:(A a && A p) = true) (hW:(W a && W p) = true) (h:BWU Γ f l t) (hd:decide (a≠p∧a < b∧p < b) = true) (hn:n = l.length)
  (hk:J { t:=(s.put d (.tup [V.int t.length,.sc .nilIface])).t,o:=upd (upd (upd s.o b (some (bB Γ (l++t)))) p (some .dead)) a (some (bX Γ (.ptr a 0) (.hd b 0 (l++t).length))),n:=s.n }):ahB Γ A W b s d f [.ptr a 0,V.str t] args okf J:=fun _ _=>by
 subst hn
 obtain ⟨e1,e2,e3⟩:=zV hd
 simp only [zo] at hA hW
 refine ⟨_,_,_,_,[a,p],some [],h.ev,⟨by simp [conv],by simp [conv],trivial⟩,⟨avP (amo ha hA.1),avR (amo hp hA.2),trivial⟩,by simpa using e1,?_,by simp,by simp [KK],fun h=>by simp at h,fun l h x hx=>(by cases h;cases hx),?_⟩
 ·intro y hy
  simp only [zy,zC,or_false] at hy
  rcases hy with rfl|rfl
  ·exact ⟨e2,hW.1⟩
  ·exact ⟨e3,hW.2⟩
 simp only [Xe,Yy,Ob.ren,K3,V.ren,sig,apw]
 exact hk
end
theorem axR {Γ:Env} {rs:List Q0} {res:V} {s:St} {l l2:List UInt8} (i:Nat) (vs:List V) {n:Nat} (h:aeh s rs = some vs) (hc:conv s.o [0,i] none (afy vs) res)
  (h0:s.o 0 = some (bX Γ (.ptr 0 0) (.hd i 0 n))) (hi:s.o i = some (bB Γ l2)) (hi2:decide (1≤i) = true) (hl:l2 = l) (hn:n = l.length):acw 1 rs res [bX Γ (.ptr 0 0) (.hd 1 0 l.length),bB Γ l] s:=by
 subst hn;subst hl
 have:=zV hi2
 exact VF rs vs _ h ⟨[0,i],none,hc,⟨⟨_,h0,rfl,fun h=>h,by show Jn _ _ _ _ _;simp [Jn,conv]⟩,⟨_,hi,rfl,fun h=>h,rfl,rfl⟩,trivial⟩,by simp;omega,rfl⟩
theorem axQ {Γ:Env} {rs:List Q0} {res:V} {s:St} {l l2:List UInt8} (i:Nat) (vs:List V) {n:Nat} (h:aeh s rs = some vs) (hc:conv s.o [0,1,i] none (afy vs) res)
  (h0:s.o 0 = some (bX Γ (.ptr 0 0) (.hd i 0 n))) (h1:∃ x,s.o 1 = some x) (hi:s.o i = some (bB Γ l2)) (hi2:decide (2≤i) = true) (hl:l2 = l) (hn:n = l.length):acw 2 rs res [bX Γ (.ptr 0 0) (.hd 2 0 l.length),.dead,bB Γ l] s:=by
 subst hn;subst hl
 obtain ⟨x1,e1⟩:=h1
 have:=zV hi2
 exact VF rs vs _ h ⟨[0,1,i],none,hc,⟨⟨_,h0,rfl,fun h=>h,by show Jn _ _ _ _ _;simp [Jn,conv]⟩,⟨_,e1,by simp [avo]⟩,⟨_,hi,rfl,fun h=>h,rfl,rfl⟩,trivial⟩,by simp;omega,rfl⟩
end Av
end
section
namespace Av
open Go
theorem Ev.shut {Γ:Env} {f:FuncId} {args:List V} {ins:List Ob} {res res2:V} {outs outs2:List Ob} {br:List Nat} {B:Option (List Nat)} (h:Ev Γ f args ins res outs)
  (hc:conv (fun k=>outs[k]?) br B res res2) (hl:axj (fun k=>outs[k]?) br B br outs2) (hn:br.Nodup) (hf:br.take ins.length = List.range ins.length):Ev Γ f args ins res2 outs2:=by
 intro C cargs hP hm hmu hg hF hsz hrep
 refine (h C cargs hP hm hmu hg hF hsz hrep).mono ?_
 rintro e w' ⟨v,Z',μ',rfl,hr,hg',hmu'⟩
 obtain ⟨g2,h2,_⟩:=hg'.close hn hl (by rw [hm];exact hf)
 exact ⟨v,_,_,rfl,Kx hg' br B _ _ _ _ (zl _) hr hc,g2,h2⟩
structure EvO (Γ:Env) (f:FuncId) (args cs:List V) (s1 s2:Nat) (xs ys cs2:List V):Prop where
 ev:Ev Γ f (.ptr 0 0 :: args) [.box true cs] (.agg [.hd 1 0 xs.length,.hd 2 0 ys.length]) [.box true cs2,.buf true s1 xs,.buf true s2 ys]
 c1:Qh cs
 c2:Qh cs2
 ca:Qh args
theorem EvO.d {Γ:Env} {f:FuncId} {args cs:List V} {s1 s2:Nat} {xs ys cs2:List V} (h:EvO Γ f args cs s1 s2 xs ys cs2):EvD Γ f args cs (.agg [.sl s1 xs,.sl s2 ys]) cs2:=by
 refine ⟨h.ev.shut (br:=[0]) (B:=none) ?_ ⟨⟨_,rfl,fun h=>h,Yq _ _ _ _ h.c2⟩,trivial⟩ (by simp) rfl,?_,h.c1,h.c2⟩
 ·simp [conv,Jn,okB]
 ·simp only [V.closed,Qh,and_self]
section
variable {Γ:Env} {b:Nat} {r:List AO} {s:St} {d:Option Nat} {f:FuncId} {args acts:List V} {cs cs2 xs ys:List V} {s1 s2:Nat} {K:St→Prop} {okf:Option (List Nat)→Prop} {a:Nat}
end
end Av
end
section
namespace Av
open Go
end Av
end
section
namespace Av
open Go
def asV (i:Nat) (xs:List V):Ob:=.box true [.hd i 0 xs.length]
structure EvU (Γ:Env) (f:FuncId) (args:List V) (sx:Nat) (xs:List V) (res:V) (xs2:List V):Prop where
 ev:Ev Γ f (.ptr 0 0 :: args) [asV 1 xs,.buf true sx xs] res [asV 2 xs2,.dead,.buf true sx xs2]
 cl:res.closed∨res = .ptr 0 0
def ays (a:Nat):V→V
 | .ptr _ _=>.ptr a 0
 | v=>v
attribute [go_sem] ays
theorem aqV {res:V} (h:res.closed∨res = .ptr 0 0) (a p b:Nat):res.ren (sig [a,p] b) = ays a res:=by
 rcases h with h|rfl
 ·rw [Wh _ _ h];cases res<;>first|rfl|exact h.elim
 ·rfl
theorem azW {Γ:Env} {b:Nat} {r:List AO} {s:St} {d:Option Nat} {f:FuncId} {acts:List V} {res:V} {K:St→Prop} {a p sx n:Nat} {xs xs2:List V}
  (ha:s.o a = some (.box true [.hd p 0 n])) (hp:s.o p = some (.buf true sx xs))
  (h:EvU Γ f (Y2 s.o acts) sx xs res xs2) (hn:n = xs.length) (hc:QL s.o (some []) acts) (h1:a≠p) (hab:a < b) (hpb:p < b)
  (hk:U3 Γ (b + KK) r { t:=(s.put d (ays a res)).t,o:=upd (upd (upd s.o b (some (.buf true sx xs2))) p (some .dead)) a (some (.box true [.hd b 0 xs2.length])),n:=s.n } K):awC Γ b r s d f (.ptr a 0 :: acts) K:=by
 subst hn
 refine J5 ⟨_,_,_,_,[a,p],some [],h.ev,⟨?_,Yn s.o [a,p] [] (fun x hx=>by cases hx) acts hc⟩,⟨⟨_,ha,?_⟩,⟨_,hp,rfl,rfl⟩,trivial⟩,by simp [h1],?_,by simp,by simp [KK],fun h=>by simp at h,?_⟩
 ·simp [conv]
 ·show Jn _ _ _ _ _
  simp [Jn,conv]
 ·intro x hx
  simp only [zy,zC,or_false] at hx
  rcases hx with rfl|rfl<;>assumption
 ·rw [aqV h.cl]
  simp only [Xe,Yy,Ob.ren,asV,K3,V.ren,sig,apw]
  exact hk
theorem au0 {Γ:Env} {b:Nat} {r:List AO} {s:St} {d:Option Nat} {f:FuncId} {x:V} {acts args:List V} {okf:Option (List Nat)→Prop} {res:V} {K:St→Prop} {a p sx n:Nat} {xs xs2:List V}
  (ha:s.o a = some (.box true [.hd p 0 n])) (hp:s.o p = some (.buf true sx xs)) (h:EvU Γ f args sx xs res xs2)
  (hd:(decide (a≠p∧a < b∧p < b)) = true) (hn:n = xs.length) (hc:QL s.o (some []) acts)
  (hk:U3 Γ (b + KK) r { t:=(s.put d (ays a res)).t,o:=upd (upd (upd s.o b (some (.buf true sx xs2))) p (some .dead)) a (some (.box true [.hd b 0 xs2.length])),n:=s.n } K):akO Γ b r s d f (.ptr a 0 :: acts) (x :: args) okf K:=by
 intro h1 _
 simp only [Y2,km] at h1
 obtain ⟨_,rfl⟩:=h1
 obtain ⟨e1,e2,e3⟩:=zV hd
 exact azW ha hp h hn hc e1 e2 e3 hk
theorem afm {Γ:Env} {f:FuncId} {nt:Nat} {ac:AC} {rs:List Q0} (hb:Has Γ.P f nt ac rs) {args xs xs2:List V} {sx:Nat} {res:V} (ha:args.length + 1≤nt) (hr:res.closed∨res = .ptr 0 0)
  (h:∀ C:Ctx,C.env = Γ→C.m = 2→AWp C nt ac { t:=(Wf (.ptr 0 0 :: args) []).t,o:=afU [(0,.box true [.hd 2 0 xs.length]),(1,.dead),(2,.buf true sx xs)],n:=3 }
    (acw 2 rs res [asV 2 xs2,.dead,.buf true sx xs2]) (fun _ _=>False) (acw 2 rs res [asV 2 xs2,.dead,.buf true sx xs2])):EvU Γ f args sx xs res xs2:=by
 refine ⟨XW hb (by simpa using ha) fun C hC hm=>?_,hr⟩
 refine awr 0 0 1 (by rfl) (by rfl) (by rfl) ?_
 have e:=h C hC hm
 refine (congrArg (fun s=>AWp C nt ac s _ _ _) ?_).mp e
 congr 1
 funext k
 match k with
 | 0=>rfl
 | 1=>rfl
 | 2=>rfl
 | k + 3=>simp [upd,afU,Wf]
theorem auE {rs:List Q0} {res:V} {s:St} {xs xs':List V} {sx:Nat} (i n:Nat) (vs:List V) (h:aeh s rs = some vs) (hc:conv s.o [0,1,i] none (afy vs) res)
  (h0:s.o 0 = some (.box true [.hd i 0 n])) (hi:s.o i = some (.buf true sx xs')) (hi3:2≤i) (h1:∃ x,s.o 1 = some x) (hx:xs' = xs) (hn:n = xs.length):acw 2 rs res [asV 2 xs,.dead,.buf true sx xs] s:=by
 subst hn;subst hx
 obtain ⟨x1,e1⟩:=h1
 refine VF rs vs _ h ⟨[0,1,i],none,hc,⟨⟨_,h0,fun h=>h,?_⟩,⟨_,e1,?_⟩,⟨_,hi,fun h=>h,rfl,rfl⟩,trivial⟩,?_,rfl⟩
 ·simp [Jn,conv]
 ·simp [avo]
 ·simp;omega
section
variable {Γ:Env} {A W:Nat→Bool} {b:Nat} {s:St} {d:Option Nat} {f:FuncId} {acts args:List V} {okf:Option (List Nat)→Prop} {J:St→Prop} {a p n:Nat}
theorem aqB {x res:V} {xs xs2:List V} {sx:Nat} (ha:s.o a = some (.box true [.hd p 0 n])) (hp:s.o p = some (.buf true sx xs)) (hA:(A a && A p) = true) (hW:(W a && W p) = true) (h:EvU Γ f args sx xs res xs2)
  (hd:decide (a≠p∧a < b∧p < b) = true) (hn:n = xs.length) (hc:QL (Yl A s.o) (some []) acts)
  (hk:J { t:=(s.put d (ays a res)).t,o:=upd (upd (upd s.o b (some (.buf true sx xs2))) p (some .dead)) a (some (.box true [.hd b 0 xs2.length])),n:=s.n }):ahB Γ A W b s d f (.ptr a 0 :: acts) (x :: args) okf J:=by
 intro h1 _
 simp only [Y2,km] at h1
 obtain ⟨_,rfl⟩:=h1
 obtain ⟨e1,e2,e3⟩:=zV hd
 subst hn
 simp only [zo] at hA hW
 have hra:Yl A s.o a = some (.box true [.hd p 0 xs.length]):=by rw [yD,if_pos hA.1,ha]
 have hrp:Yl A s.o p = some (.buf true sx xs):=by rw [yD,if_pos hA.2,hp]
 refine ⟨_,_,_,_,[a,p],some [],h.ev,⟨?_,Yn _ [a,p] [] (fun x hx=>by cases hx) acts hc⟩,⟨⟨_,hra,?_⟩,⟨_,hrp,rfl,rfl⟩,trivial⟩,by simp [e1],?_,by simp,by simp [KK],fun h=>by simp at h,fun l h x hx=>(by cases h;cases hx),?_⟩
 ·simp [conv]
 ·show Jn _ _ _ _ _
  simp [Jn,conv]
 ·intro x hx
  simp only [zy,zC,or_false] at hx
  rcases hx with rfl|rfl
  ·exact ⟨e2,hW.1⟩
  ·exact ⟨e3,hW.2⟩
 ·rw [aqV h.cl]
  simp only [Xe,Yy,Ob.ren,asV,K3,V.ren,sig,apw]
  exact hk
theorem abB {cs:List V} (h:EvR Γ f args cs) (hl:((JD acts).all fun x=>A x && W x) = true) (hc:QL (Yl A s.o) (some (JD acts)) acts)
  (hk:J { t:=(s.put d (.ptr b 0)).t,o:=upd (xO (some (JD acts)) [] s.o) b (some (.box true cs)),n:=s.n }):ahB Γ A W b s d f acts args okf J:=by
 rintro rfl _
 refine ⟨_,_,_,_,[],some (JD acts),h.ev,YJ _ _ _ hc,trivial,kz,fun x hx=>by simp at hx,by simp,by simp [KK],fun h=>by simp at h,fun l h x hx=>(by cases h;simpa using kH.1 hl x hx),?_⟩
 simp only [Xe,Yy,Ob.ren,J7 _ _ h.c1]
 exact hk
end
structure EvG (Γ:Env) (f:FuncId) (args:List V) (sx:Nat) (xs:List V):Prop where
 ev:Ev Γ f args [] (.ptr 0 0) [asV 1 xs,.buf true sx xs]
section
variable {Γ:Env} {A W:Nat→Bool} {b:Nat} {r:List AO} {s:St} {d:Option Nat} {f:FuncId} {acts args:List V} {okf:Option (List Nat)→Prop} {J K:St→Prop} {sx:Nat} {xs:List V}
theorem au3 (h:EvG Γ f args sx xs) (hc:okf (some []))
  (hk:U3 Γ (b + KK) r { t:=(s.put d (.ptr b 0)).t,o:=upd (upd s.o (b + 1) (some (.buf true sx xs))) b (some (.box true [.hd (b + 1) 0 xs.length])),n:=s.n } K):akO Γ b r s d f acts args okf K:=by
 rintro rfl rfl
 refine J5 ⟨_,_,_,_,[],some [],h.ev,YJ _ _ _ hc,trivial,kz,fun x hx=>by simp at hx,by simp,by simp [KK],fun h=>by simp at h,?_⟩
 simp only [Xe,Yy,Ob.ren,asV,K3,V.ren,sig,apw]
 exact hk
theorem aqD (h:EvG Γ f args sx xs) (hc:okf (some []))
  (hk:J { t:=(s.put d (.ptr b 0)).t,o:=upd (upd s.o (b + 1) (some (.buf true sx xs))) b (some (.box true [.hd (b + 1) 0 xs.length])),n:=s.n }):ahB Γ A W b s d f acts args okf J:=by
 rintro rfl rfl
 refine ⟨_,_,_,_,[],some [],h.ev,YJ _ _ _ hc,trivial,kz,fun x hx=>by simp at hx,by simp,by simp [KK],fun h=>by simp at h,fun l h x hx=>(by cases h;cases hx),?_⟩
 simp only [Xe,Yy,Ob.ren,asV,K3,V.ren,sig,apw]
 exact hk
theorem aqn {nt:Nat} {ac:AC} {rs:List Q0} (hb:Has Γ.P f nt ac rs) (ha:args.length≤nt)
  (h:∀ C:Ctx,C.env = Γ→C.m = 0→AWp C nt ac { t:=(Wf args []).t,o:=fun _=>none,n:=0 } (acw 0 rs (.ptr 0 0) [asV 1 xs,.buf true sx xs]) (fun _ _=>False) (acw 0 rs (.ptr 0 0) [asV 1 xs,.buf true sx xs])):EvG Γ f args sx xs :=
 ⟨XW hb (by simpa using ha) fun C hC hm=>by
  have e:=h C hC hm
  refine (congrArg (fun s=>AWp C nt ac s _ _ _) ?_).mp e
  simp [Wf]⟩
end
theorem ayP {rs:List Q0} {s:St} {xs xs':List V} {sx:Nat} (x i n:Nat) (vs:List V) (h:aeh s rs = some vs) (hc:conv s.o [x,i] none (afy vs) (.ptr 0 0))
  (h0:s.o x = some (.box true [.hd i 0 n])) (hi:s.o i = some (.buf true sx xs')) (hxi:x≠i) (hx:xs' = xs) (hn:n = xs.length):acw 0 rs (.ptr 0 0) [asV 1 xs,.buf true sx xs] s:=by
 subst hn;subst hx
 refine VF rs vs _ h ⟨[x,i],none,hc,⟨⟨_,h0,fun h=>h,?_⟩,⟨_,hi,fun h=>h,rfl,rfl⟩,trivial⟩,by simpa using hxi,rfl⟩
 simp [Jn,conv]
theorem agO {C:Ctx} {nt:Nat} {s:St} {K:St→Prop} {E:Nat→St→Prop} {R:St→Prop} {ks:List Nat} {x:AC} (h:AWp C nt x s (fun _=>False) E R):AWp C nt (JG ks x) s K E R :=
 arN (fun k s'=>k = 0∧s' = s) ⟨0,rfl,rfl⟩ (by rintro k s' ⟨rfl,rfl⟩;exact ano h (fun _ h=>h.elim) (fun _ _ h=>h) (fun _ h=>h))
end Av
end
section
namespace Av
open Go
theorem Good.repl {C:Ctx} {w:World} {Z:Nat→Nat→Prop} {μ:Nat→Option Cn} {o:Nat→Option Ob} (h:Good C w Z μ o) {a:Nat} {x y:Ob} (ha:o a = some x)
  (hok:∀ c,μ a = some c→abc w Z μ c x→abc w Z μ c y) (hl:∀ c,y.live c→x.live c):Good C w Z μ (upd o a (some y)):=by
 refine ⟨fun b z hb=>?_,fun b d p q e f hbd hp hq he hf lp lq=>?_,h.zlt,h.grow,h.frame,h.zsub,h.zsup,h.zkeep,h.fix,h.oo⟩
 ·by_cases hba:b = a
  ·subst hba
   rw [Qn] at hb;cases hb
   obtain ⟨c,hm,hk,hv⟩:=h.ob b x ha
   exact ⟨c,hm,hok c hm hk,fun hy=>hv (hl c hy)⟩
  ·rw [QW _ _ hba] at hb;exact h.ob b z hb
 ·have key:∀ {b p e},upd o a (some y) b = some p→p.live e→∃ p',o b = some p'∧p'.live e:=by
   intro b p e hp lp
   by_cases hba:b = a
   ·subst hba;rw [Qn] at hp;cases hp;exact ⟨x,ha,hl _ lp⟩
   ·rw [QW _ _ hba] at hp;exact ⟨p,hp,lp⟩
  obtain ⟨p',hp',lp'⟩:=key hp lp
  obtain ⟨q',hq',lq'⟩:=key hq lq
  exact h.sep b d p' q' e f hbd hp' hq' he hf lp' lq'
def leL:List V→List V→Prop
 | [],[]=>True
 | x :: r,y :: r'=>LeV x y∧leL r r'
 | _,_=>False
def leC:List V→List V→Prop
 | [],[]=>True
 | x :: r,y :: r'=>leL x.cells y.cells∧leC r r'
 | _,_=>False
theorem amJ:∀ {xs ys:List V},leL xs ys→xs.length = ys.length∧∀ i (h:i < xs.length) (h':i < ys.length),LeV xs[i] ys[i]
 | [],[],_=>⟨rfl,fun i h=>by simp at h⟩
 | x :: r,y :: r',h=>by
   obtain ⟨h1,h2⟩:=amJ h.2
   refine ⟨by simp [h1],fun i hi hi'=>?_⟩
   cases i with
   | zero=>exact h.1
   | succ i=>exact h2 i (by simpa using hi) (by simpa using hi')
theorem aue:∀ {xs ys:List V},leC xs ys→xs.length = ys.length∧∀ i (h:i < xs.length) (h':i < ys.length),leL xs[i].cells ys[i].cells
 | [],[],_=>⟨rfl,fun i h=>by simp at h⟩
 | x :: r,y :: r',h=>by
   obtain ⟨h1,h2⟩:=aue h.2
   refine ⟨by simp [h1],fun i hi hi'=>?_⟩
   cases i with
   | zero=>exact h.1
   | succ i=>exact h2 i (by simpa using hi) (by simpa using hi')
theorem amI:∀ xs:List V,leL xs xs
 | []=>trivial
 | x :: r=>⟨LeV.refl x,amI r⟩
theorem aq9:∀ xs:List V,leC xs xs
 | []=>trivial
 | x :: r=>⟨amI _,aq9 r⟩
theorem BOk.le {w:World} {Z:Nat→Nat→Prop} {ν:Nat→Option Cn} {c:Cn} {wr:Bool} {sz:Nat} {xs ys:List V} (h:BOk w Z ν c wr sz xs) (hl:leC xs ys):BOk w Z ν c wr sz ys:=by
 obtain ⟨l1,l2⟩:=aue hl
 refine ⟨by rw [← l1];exact h.1,fun hv=>?_⟩
 obtain ⟨h0,h1,h2,h3,h4,cs,ty,fr,hh,h5,h6,h7⟩:=h.2 hv
 refine ⟨h0,h1,h2,h3,fun i hi=>?_,cs,ty,fr,hh,h5,h6,fun i hi j hj=>?_⟩
 ·rw [← (amJ (l2 i (by omega) hi)).1];exact h4 i (by omega)
 ·obtain ⟨m1,m2⟩:=amJ (l2 i (by omega) hi)
  obtain ⟨v,e1,e2,e3⟩:=h7 i (by omega) j (by omega)
  exact ⟨v,e1,e2,m2 j (by omega) hj _ _ _ _ e3⟩
section
variable {C:Ctx} {nt n:Nat} {s:St} {K:St→Prop} {E:Nat→St→Prop} {R:St→Prop}
end
def LeO:Ob→Ob→Prop
 | .buf wr s xs,.buf wr' s' ys=>wr = wr'∧s = s'∧leC xs ys
 | .obuf wr s xs,.obuf wr' s' ys=>wr = wr'∧s = s'∧leC xs ys
 | .box wr xs,.box wr' ys=>wr = wr'∧leL xs ys
 | x,y=>x = y
theorem LeO.refl (x:Ob):LeO x x:=by
 cases x<;>first|exact rfl|exact ⟨rfl,rfl,aq9 _⟩|exact ⟨rfl,amI _⟩
theorem LeO.ok {w:World} {Z:Nat→Nat→Prop} {μ:Nat→Option Cn} {c:Cn} {x y:Ob} (h:LeO x y) (hk:abc w Z μ c x):abc w Z μ c y∧(y.live c→x.live c):=by
 cases x<;>cases y<;>first
  | (cases h;done)
  | (cases h;exact ⟨hk,fun h=>h⟩)
  | (obtain ⟨rfl,rfl,hl⟩:=h;exact ⟨BOk.le hk hl,fun h=>h⟩)
  | (obtain ⟨rfl,hl⟩:=h
     obtain ⟨hv,⟨cs,ty,hh,hs,hr⟩,hz⟩:=hk
     obtain ⟨l1,l2⟩:=amJ hl
     exact ⟨⟨hv,⟨cs,ty,hh,by omega,fun j h h'=>⟨l2 j (by omega) h _ _ _ _ (hr j (by omega) h').1,(hr j (by omega) h').2⟩⟩,hz⟩,fun h=>h⟩)
structure Le (s s2:St):Prop where
 t:∀ i,LeV (s.t i) (s2.t i)
 o:∀ a y,s2.o a = some y→∃ x,s.o a = some x∧LeO x y
 n:s.n = s2.n
theorem Le.refl (s:St):Le s s:=⟨fun _=>LeV.refl _,fun a y h=>⟨y,h,LeO.refl y⟩,rfl⟩
theorem Le.trans {s s2 s3:St} (h:Le s s2) (h':Le s2 s3) (hO:∀ x y z,LeO x y→LeO y z→LeO x z):Le s s3 :=
 ⟨fun i w Z μ v hv=>h'.t i _ _ _ _ (h.t i _ _ _ _ hv),fun a y hy=>let ⟨x,h1,h2⟩:=h'.o a y hy;let ⟨z,h3,h4⟩:=h.o a x h1;⟨z,h3,hO _ _ _ h4 h2⟩,h.n.trans h'.n⟩
theorem Le.objs {t:Nat→V} {o o2:Nat→Option Ob} {n:Nat} (h:∀ a y,o2 a = some y→∃ x,o a = some x∧LeO x y):Le { t:=t,o:=o,n:=n } { t:=t,o:=o2,n:=n }:=⟨fun _=>LeV.refl _,h,rfl⟩
theorem Le.upd {t:Nat→V} {o:Nat→Option Ob} {n a:Nat} {x y:Ob} (ho:o a = some x) (h:LeO x y):Le { t:=t,o:=o,n:=n } { t:=t,o:=upd o a (some y),n:=n } :=
 Le.objs fun b z hz=>by
  by_cases hb:b = a
  ·subst hb;rw [Qn] at hz;cases hz;exact ⟨x,ho,h⟩
  ·rw [QW _ _ hb] at hz;exact ⟨z,hz,LeO.refl z⟩
theorem Sim.le {C:Ctx} {nt n:Nat} {s s2:St} {a:Act} {w:World} (h:Sim C nt n s a w) (hl:Le s s2):Sim C nt n s2 a w:=by
 obtain ⟨Z,μ,hg,ht,hf,hm,hd,hn⟩:=h
 refine ⟨Z,μ,⟨fun b y hb=>?_,fun b d p q e f hbd hp hq he hf lp lq=>?_,hg.zlt,hg.grow,hg.frame,hg.zsub,hg.zsup,hg.zkeep,hg.fix,hg.oo⟩,fun i=>hl.t i _ _ _ _ (ht i),hf,hm,hd,hn⟩
 ·obtain ⟨x,h1,h2⟩:=hl.o b y hb
  obtain ⟨c,hm,hk,hv⟩:=hg.ob b x h1
  obtain ⟨k1,k2⟩:=h2.ok hk
  exact ⟨c,hm,k1,fun hy=>hv (k2 hy)⟩
 ·obtain ⟨x,h1,h2⟩:=hl.o b p hp
  obtain ⟨x',h1',h2'⟩:=hl.o d q hq
  obtain ⟨c,hm,hk,_⟩:=hg.ob b x h1
  obtain ⟨c',hm',hk',_⟩:=hg.ob d x' h1'
  have e1:c = e:=by rw [hm] at he;cases he;rfl
  have e2:c' = f:=by rw [hm'] at hf;cases hf;rfl
  subst e1;subst e2
  exact hg.sep b d x x' _ _ hbd h1 h1' hm hm' ((h2.ok hk).2 lp) ((h2'.ok hk').2 lq)
section
variable {C:Ctx} {nt:Nat} {s:St} {K:St→Prop} {E:Nat→St→Prop} {R:St→Prop}
end
end Av
end
section
namespace Av
open Go
theorem EvP.shut {Γ:Env} {f:FuncId} {args:List V} {ins:List Ob} {Q Q2:V→List Ob→Prop} (h:EvP Γ f args ins Q)
  (hq:∀ res outs,Q res outs→∃ res2 outs2 br B,Q2 res2 outs2∧conv (fun k=>outs[k]?) br B res res2∧axj (fun k=>outs[k]?) br B br outs2∧br.Nodup∧br.take ins.length = List.range ins.length):EvP Γ f args ins Q2:=by
 intro C cargs hP hm hmu hg hF hsz hrep
 refine (h C cargs hP hm hmu hg hF hsz hrep).mono ?_
 rintro e w' ⟨res,outs,hQ,v,Z',μ',rfl,hr,hg',hmu'⟩
 obtain ⟨res2,outs2,br,B,h2,hc,hl,hn,hf⟩:=hq res outs hQ
 obtain ⟨g2,h3,_⟩:=hg'.close hn hl (by rw [hm];exact hf)
 exact ⟨res2,outs2,h2,v,_,_,rfl,Kx hg' br B _ _ _ _ (zl _) hr hc,g2,h3⟩
structure EvK (Γ:Env) (f:FuncId) (args cs:List V) (Q:V→List V→Prop):Prop where
 ev:EvP Γ f (.ptr 0 0 :: args) [.box true cs] (fun r o=>∃ cs2,o = [.box true cs2]∧Q r cs2)
 c1:Qh cs
 cq:∀ r cs2,Q r cs2→r.closed∧Qh cs2
theorem EvD.k {Γ:Env} {f:FuncId} {args cs cs2:List V} {res:V} {Q:V→List V→Prop} (h:EvD Γ f args cs res cs2) (hq:Q res cs2) (hc:∀ r cs2,Q r cs2→r.closed∧Qh cs2):EvK Γ f args cs Q :=
 ⟨h.ev.p.weaken fun r o ⟨h1,h2⟩=>⟨cs2,h2,h1 ▸ hq⟩,h.c1,hc⟩
theorem EvK.weaken {Γ:Env} {f:FuncId} {args cs:List V} {Q Q':V→List V→Prop} (h:EvK Γ f args cs Q) (hq:∀ r c,Q r c→Q' r c) (hc:∀ r cs2,Q' r cs2→r.closed∧Qh cs2):EvK Γ f args cs Q' :=
 ⟨h.ev.weaken fun r o ⟨c,h1,h2⟩=>⟨c,h1,hq _ _ h2⟩,h.c1,hc⟩
section
variable {Γ:Env} {b:Nat} {r:List AO} {s:St} {d:Option Nat} {f:FuncId} {acts cs:List V} {Q:V→List V→Prop} {K:St→Prop} {a:Nat}
end
section
variable {Γ:Env} {b:Nat} {r:List AO} {s:St} {d:Option Nat} {f:FuncId} {acts args cs:List V} {Q:V→List Ob→Prop} {K:St→Prop} {okf:Option (List Nat)→Prop} {a:Nat}
end
section
variable {C:Ctx} {nt:Nat} {s:St} {K:St→Prop} {E:Nat→St→Prop} {R:St→Prop}
end
structure EvZ (Γ:Env) (f:FuncId) (args:List V) (sz:Nat) (xs:List V) (m:Nat) (ys:List V):Prop where
 ev:Ev Γ f (.hd 0 0 xs.length :: args) [.buf true sz xs] (.hd 0 0 m) [.buf true sz ys]
theorem ape {Γ:Env} {b:Nat} {r:List AO} {s:St} {d:Option Nat} {f:FuncId} {x:V} {acts args:List V} {okf:Option (List Nat)→Prop} {K:St→Prop} {a sz n m:Nat} {xs ys:List V}
  (ha:s.o a = some (.buf true sz xs)) (h:EvZ Γ f args sz xs m ys) (hab:decide (a < b) = true) (hn:n = xs.length) (hc:QL s.o (some []) acts)
  (hk:U3 Γ (b + KK) r { t:=(s.put d (.hd a 0 m)).t,o:=upd s.o a (some (.buf true sz ys)),n:=s.n } K):akO Γ b r s d f (.hd a 0 n :: acts) (x :: args) okf K:=by
 intro h1 _
 simp only [Y2,km] at h1
 obtain ⟨_,rfl⟩:=h1
 subst hn
 refine J5 ⟨_,_,_,_,[a],some [],h.ev,⟨?_,Yn s.o [a] [] (fun x hx=>by cases hx) acts hc⟩,⟨⟨_,ha,rfl,rfl⟩,trivial⟩,by simp,?_,by simp,by simp [KK],fun h=>by simp at h,?_⟩
 ·simp [conv]
 ·intro x hx
  simp only [zq] at hx
  subst hx;exact zV hab
 ·simp only [Xe,Yy,Ob.ren,apw,V.ren,sig,List.getElem?_cons_zero,Option.getD_some]
  exact hk
theorem aks {Γ:Env} {f:FuncId} {nt:Nat} {ac:AC} {rs:List Q0} (hb:Has Γ.P f nt ac rs) {args xs ys:List V} {sz m:Nat} (ha:args.length + 1≤nt)
  (h:∀ C:Ctx,C.env = Γ→C.m = 1→AWp C nt ac { t:=(Wf (.hd 0 0 xs.length :: args) []).t,o:=afU [(0,.buf true sz xs)],n:=1 } (acw 1 rs (.hd 0 0 m) [.buf true sz ys]) (fun _ _=>False) (acw 1 rs (.hd 0 0 m) [.buf true sz ys])):EvZ Γ f args sz xs m ys:=by
 refine ⟨XW hb (by simpa using ha) fun C hC hm=>?_⟩
 refine (congrArg (fun s=>AWp C nt ac s _ _ _) ?_).mp (h C hC hm)
 simp only [Wf]
 congr 1
 funext k
 match k with
 | 0=>rfl
 | k + 1=>simp [afU]
theorem aoW {rs:List Q0} {s:St} {xs ys:List V} {sz m n:Nat} (vs:List V) (h:aeh s rs = some vs) (ho:s.o 0 = some (.buf true sz xs)) (hc:afy vs = .hd 0 0 n) (hn:n = m) (hx:xs = ys):acw 1 rs (.hd 0 0 m) [.buf true sz ys] s:=by
 subst hx;subst hn
 exact VF rs vs _ h ⟨[0],none,by rw [hc];simp [conv],⟨⟨_,ho,fun h=>h,rfl,rfl⟩,trivial⟩,by simp,rfl⟩
end Av
end
section
namespace Av
open Go
section
variable {Γ:Env} {A W:Nat→Bool} {b:Nat} {r:List AO} {s:St} {d:Option Nat} {f:FuncId} {acts args:List V} {okf:Option (List Nat)→Prop} {x y z res:V} {J K:St→Prop} {cs cs2 ks vs:List V} {a p off c0:Nat}
theorem aAk {x a p n:Nat} {o:Nat→Option Ob}:xO (some [x]) [a,p] o n = if n = x then (if x = a then o n else if x = p then o n else (o n).map Ob.frz) else o n:=by
 simp only [xO,zq,zy,zC,or_false]
 by_cases h1:n = x
 ·subst h1
  by_cases h2:n = a<;>by_cases h3:n = p<;>simp [h2,h3]
 ·simp [h1]
theorem aAj {x n:Nat} {o:Nat→Option Ob}:xO (some [x]) [] o n = if n = x then (o n).map Ob.frz else o n:=by
 simp only [xO,zy,zC,or_false,not_false_eq_true,and_true]
attribute [go_sem] aAk aAj
theorem aw5 {args:List V} (h:EvC Γ f args res) (hc:okf (some (JD acts))) (hk:U3 Γ (b + KK) r { t:=(s.put d res).t,o:=xO (some (JD acts)) [] s.o,n:=s.n } K):akO Γ b r s d f acts args okf K:=by
 rintro rfl rfl
 refine J5 ⟨_,_,_,_,[],some (JD acts),h.1,YJ _ _ _ hc,trivial,kz,fun x hx=>by simp at hx,by simp,by simp [KK],fun h=>by simp at h,?_⟩
 simp only [Xe,Yy,Wh _ _ h.2]
 exact hk
end
section
variable {Γ:Env} {A W:Nat→Bool} {b:Nat} {s:St} {d:Option Nat} {f:FuncId} {acts args:List V} {okf:Option (List Nat)→Prop} {res:V} {J:St→Prop}
end
end Av
end
section
set_option maxRecDepth 10000
set_option maxHeartbeats 4000000
namespace Av
open Go
attribute [local irreducible] AWp U3 abh acE awS awC ajc awQ ajv Jo jG aiB awR yv awB okR ad1 ris
end Av
end
