/- Strings as lists of bytes, lists of integers: what the operations do to them. -/
import Derived.Test.YtphclkkggijicaaGreatDoorB9
import Derived.Laws.Strings
set_option linter.unusedVariables false
set_option linter.unusedSimpArgs false
section
namespace Av
open Go
theorem K6 (l:List UInt8):(⟨l.toArray⟩:ByteArray).size = l.length:=by simp [ByteArray.size]
theorem apD (a b:List UInt8):(⟨a.toArray⟩:ByteArray)++⟨b.toArray⟩ = ⟨(a++b).toArray⟩:=by
 apply ByteArray.ext
 simp
theorem we (l:List UInt8):(⟨l.toArray⟩:ByteArray).toList = l:=by
 simp
theorem alD (l:List UInt8) (a b:Nat):(⟨l.toArray⟩:ByteArray).extract a b = ⟨((l.drop a).take (b - a)).toArray⟩:=by
 apply ByteArray.ext
 simp
theorem aqz (a b:List UInt8):abF .add ⟨a.toArray⟩ ⟨b.toArray⟩ = .asrt (a.length + b.length < 2 ^ 62) (.ret { v:=V.str (a++b) }):=by
 simp only [abF,K6,apD]
theorem aqy (a b:List UInt8):abF .eql ⟨a.toArray⟩ ⟨b.toArray⟩ = .ret { v:=.bool (a == b) }:=by
 simp only [abF,we]
theorem aqt (a b:List UInt8):abF .neq ⟨a.toArray⟩ ⟨b.toArray⟩ = .ret { v:=.bool (!(a == b)) }:=by
 simp only [abF,we]
theorem aqu (a b:List UInt8):abF .lss ⟨a.toArray⟩ ⟨b.toArray⟩ = .ret { v:=.bool (Op.bytesLess a b) }:=by
 simp only [abF,we]
theorem aqv (a b:List UInt8):abF .leq ⟨a.toArray⟩ ⟨b.toArray⟩ = .ret { v:=.bool (Op.bytesLess a b || a == b) }:=by
 simp only [abF,we]
theorem aqw (a b:List UInt8):abF .gtr ⟨a.toArray⟩ ⟨b.toArray⟩ = .ret { v:=.bool (!(Op.bytesLess a b || a == b)) }:=by
 simp only [abF,we]
theorem aqx (a b:List UInt8):abF .geq ⟨a.toArray⟩ ⟨b.toArray⟩ = .ret { v:=.bool (!(Op.bytesLess a b)) }:=by
 simp only [abF,we]
theorem ak6 {l:List V} (h:∀ v∈l,v.closed):Qa l:=by
 induction l with
 | nil=>trivial
 | cons v l ih=>exact ⟨h v (by simp),by grind⟩
end Av
end
section
namespace Av
open Go
theorem Qe {α:Type} {l:List α} {k:Nat} {y:α} {r:List α} (h:l.drop k = y :: r):k < l.length∧l[k]? = some y∧l.drop (k + 1) = r:=by
 grind [Nat.lt_or_ge,List.drop_of_length_le,List.drop_eq_getElem_cons,List.cons.injEq]
theorem Qj {α:Type} {l:List α} {k:Nat} (h:l.drop k = []):l.length≤k:=by simpa using h
theorem Qd {k:Nat} (h:k < 2 ^ 62):IntKind.i64.wrap ((k:Int) + 1) = ((k + 1:Nat):Int):=by
 grind [Jc]
def Jn:List (Nat×V)→Nat→V→V
 | [],_,v=>v
 | (j,u) :: r,k,v=>if k = j then u else Jn r k v
def ovT (ts:List (Nat×V)):List (Nat×V)→List (Nat×V)
 | []=>[]
 | (k,v) :: r=>(k,Jn ts k v) :: ovT ts r
def ltO (n:Nat) (o:Nat→Option Ob):Prop:=∀ a x,o a = some x→a < n∧x.lt n
theorem aiL {n:Nat} {o:Nat→Option Ob} {a:Nat} {x:Ob} (h1:a < n) (h2:x.lt n) (h:ltO n o):ltO n (upd o a (some x)):=by
 intro b y hb
 by_cases e:b = a
 ·grind [Qi]
 ·rw [QH _ _ e] at hb;exact h b y hb
theorem ajB {n:Nat}:ltO n (fun _=>none):=by intro a x h;cases h
def ltT (n:Nat) (l:List (Nat×V)):Prop:=∀ p∈l,p.2.lt n
theorem wX {n:Nat}:ltT n []:=by intro p hp;cases hp
theorem jZ {n k:Nat} {v:V} {r:List (Nat×V)} (h1:v.lt n) (h:ltT n r):ltT n ((k,v) :: r):=by
 intro p hp
 rcases zp.1 hp with rfl|hp
 ·exact h1
 ·exact h p hp
def eqT (t:Nat→V) (τ:Nat→Nat) (l:List (Nat×V)):Prop:=∀ p∈l,t p.1 = p.2.ren τ
theorem W8 {t:Nat→V} {τ:Nat→Nat}:eqT t τ []:=by intro p hp;cases hp
theorem Xk {t:Nat→V} {τ:Nat→Nat} {k:Nat} {v:V} {r:List (Nat×V)}:eqT t τ ((k,v) :: r)↔t k = v.ren τ∧eqT t τ r:=by
 constructor
 ·intro h;exact ⟨h (k,v) (by simp),fun p hp=>h p (by simp [hp])⟩
 ·rintro ⟨h1,h2⟩ p hp
  rcases zp.1 hp with rfl|hp
  ·exact h1
  ·exact h2 p hp
def okN (n m:Nat) (rn:List (Nat×Nat)):Prop:=(∀ p∈rn,n≤p.2∧m≤p.1)∧(rn.map (·.2)).Nodup
theorem j0:∀ (rn:List (Nat×Nat)) (a:Nat),(Qp rn a = a∧∀ p∈rn,p.1≠a)∨(a,Qp rn a)∈rn
 | [],a=>.inl ⟨rfl,by simp⟩
 | (k,v) :: r,a=>by
  simp only [Qp]
  split
  ·grind
  ·rename_i h
   rcases j0 r a with ⟨h1,h2⟩|h'
   ·grind
   grind
theorem amm {n m:Nat} {rn:List (Nat×Nat)} (h:okN n m rn) {a b:Nat} (ha:a < n) (hb:b < n) (e:Qp rn a = Qp rn b):a = b:=by
 rcases j0 rn a with ⟨h1,_⟩|h1<;>rcases j0 rn b with ⟨h2,_⟩|h2
 ·omega
 ·have:=(h.1 _ h2).1;grind
 ·have:=(h.1 _ h1).1;grind
 ·have:=jW h.2 h1 h2 e
  grind
theorem amn {n m:Nat} {rn:List (Nat×Nat)} (h:okN n m rn) {k:Nat} (hk:k < m):Qp rn k = k:=by
 rcases j0 rn k with ⟨h1,_⟩|h1
 ·exact h1
 ·have:=(h.1 _ h1).2;grind
theorem alr (τ:Nat→Nat) (n:Nat) (x:Ob) (h:x.lt n):(x.ren τ).weak τ n x:=by
 induction x with
 | dead=>trivial
 | typ T x ih=>exact ⟨rfl,ih h⟩
 | box wr cs=>exact ⟨fun h=>h,rfl,h⟩
 | buf wr s xs=>exact ⟨fun h=>h,rfl,rfl⟩
 | obuf wr s xs=>exact ⟨fun h=>h,rfl,rfl,h⟩
 | map ks vs c0=>exact ⟨rfl,rfl,rfl,h⟩
 | iter a since seen last=>exact ⟨rfl,h,rfl,rfl,rfl⟩
theorem ao0 {m n:Nat} {s:St} {l:List (Nat×V)} {o:Nat→Option Ob} (rn:List (Nat×Nat)) (hn:okN n m rn) (hm:m≤n) (hl:ltT n l) (hlo:ltO n o)
  (ht:eqT s.t (Qp rn) l) (ho:∀ a,a < n→s.o (Qp rn a) = (o a).map (Ob.ren (Qp rn))):ano m (Qp rn) s { t:=jz l,o:=o,n:=n }:=by
 refine ⟨fun i=>?_,fun a y h=>?_,fun a b ha hb e=>?_,fun k hk=>amn hn hk,hm⟩
 ·rcases vU l i with h|h
  ·exact .inl h
  ·exact .inr ⟨ht _ h,hl _ h⟩
 ·obtain ⟨h1,h2⟩:=hlo a y h
  grind [alr,Qp]
 ·obtain ⟨x,hx⟩:=kI.1 ha
  obtain ⟨y,hy⟩:=kI.1 hb
  exact amm hn (hlo a x hx).1 (hlo b y hy).1 e
section
variable {C:Ctx} {nt:Nat} {K:St→Prop} {E:Nat→St→Prop} {R:St→Prop}
theorem aq7:∀ (k:Nat) (v:V),SizeOf.sizeOf v≤k→v.ren (fun a=>a) = v:=by
 intro k
 induction k with
 | zero=>intro v h;cases v<;>simp at h
 | succ k ih =>
   intro v h
   have list:∀ cs:List V,SizeOf.sizeOf cs≤k→KS (fun a=>a) cs = cs:=by
    intro cs
    induction cs with
    | nil=>intro _;rfl
    | cons u r ihr=>grind [KS]
   cases v<;>simp only [V.ren]<;>simp at h
   all_goals (rw [list _ (by omega)])
theorem aiv (v:V):v.ren (fun a=>a) = v:=aq7 _ v (zi _)
theorem ar2 (cs:List V):KS (fun a=>a) cs = cs:=by induction cs with
 | nil=>rfl
 | cons v r ih=>simp only [KS,aiv,ih]
theorem ar1 (x:Ob):x.ren (fun a=>a) = x:=by induction x<;>simp_all [Ob.ren,ar2]
theorem acT:Qp [] = fun a=>a:=by funext a;rfl
theorem Qt {ks:List Nat} {x:AC} {base:List (Nat×V)} {o0:Nat→Option Ob} {n0:Nat} {ι:Type} (good:ι→Prop) (ts:ι→List (Nat×V)) (msr:ι→Nat) (i0:ι)
  (hm:C.m≤n0) (h0:good i0) (hlo:ltO n0 o0) (hl:∀ i,good i→ltT n0 (ovT (ts i) base)) (ht:eqT (jz base) (fun a=>a) (ovT (ts i0) base))
  (h:∀ i,good i→∀ K':St→Prop,(∀ s' i',eqT s'.t (fun a=>a) (ovT (ts i') base)→good i'→msr i' < msr i→(∀ a,a < n0→s'.o a = o0 a)→K' s') →
    AWp C nt x { t:=jz (ovT (ts i) base),o:=o0,n:=n0 } K' E R):AWp C nt (afn ks x) { t:=jz base,o:=o0,n:=n0 } K E R:=by
 have hn:okN n0 C.m []:=⟨by simp,by simp⟩
 have ren0:∀ oo:Nat→Option Ob,∀ a,(oo a).map (Ob.ren (Qp [])) = oo a:=by
  intro oo a
  rw [acT]
  cases oo a with
  | none=>rfl
  | some x=>simp [ar1]
 refine Qz good (fun i=>{ t:=jz (ovT (ts i) base),o:=o0,n:=n0 }) msr i0 h0 (Qp []) (ao0 [] hn hm (hl i0 h0) hlo (by rw [acT];exact ht) (fun a _=>(ren0 o0 a).symm)) ?_
 intro i hi K' hK
 exact h i hi K' fun s' i' h1 h2 h3 h4=>hK s' i' (Qp []) h2 h3 (ao0 [] hn hm (hl i' h2) hlo (by rw [acT];exact h1) (fun a ha=>(h4 a ha).trans (ren0 o0 a).symm))
end
end Av
end
section
namespace Av
open Go
def awR (A W:Nat→Bool) (b:Nat) (s:St) (d:Option Nat) (J:St→Prop) (m:AM E):Prop:=m.wp (Jt A s.o) fun e=>okW W b e.os∧J (s.eff d e)
def Vn (A W:Nat→Bool) (b:Nat) (s:St) (d:Option Nat) (J:St→Prop) (k:Ob→AM E) (x:Option Ob):Prop :=
 match x with
 | some ob=>awR A W b s d J (k ob)
 | none=>False
def jy (Γ:Env) (A W:Nat→Bool) (b:Nat) (s:St) (x:AO) (J:St→Prop):Prop:=awG Γ A W b s x J
def Kx (Γ:Env) (fz:Nat→Bool) (b0:Nat) (K:St→Prop) (t:OP) (s:St):Prop:=awP Γ fz b0 K t s
def acE (Γ:Env) (fz:Nat→Bool) (b0:Nat) (K:St→Prop) (t:OP) (s:St):Prop:=aqD Γ fz b0 K t s
def vu (Γ:Env) (A W:Nat→Bool) (b:Nat) (s:St) (x:AO) (g:Nat) (want:Bool) (v:V) (J:St→Prop):Prop :=
 match v with
 | .sc (.bool q)=>(q = want→jy Γ A W b (s.put (some g) (.bool want)) { d:=x.d,op:=x.op } J)∧(q = !want→J ((s.put (some g) (.bool !want)).put x.d V.und))
 | .tup []=>J (s.put x.d V.und)
 | _=>False
def W6 (Γ:Env) (A W:Nat→Bool) (b:Nat) (s:St) (d:Option Nat) (v:V) (acts:List V) (J:St→Prop):Prop :=
 match v with
 | .clo f cap=>QP Γ A W b s d f.f (f.args acts cap) J
 | _=>False
section
variable {Γ:Env} {A W:Nat→Bool} {fz:Nat→Bool} {b b0:Nat} {s:St} {d:Option Nat} {J K:St→Prop}
theorem alP:Kx Γ fz b0 K .done s↔K s:=by simp only [Kx,awP]
theorem anK {j:Nat} {X:Bool} {acl:List Nat} {x:AO} {t:OP}:Kx Γ fz b0 K (.one j X acl x t) s↔jy Γ (rA X acl fz b0) (rW X acl fz b0) (b0 + j * KK) s x (Kx Γ fz b0 K t):=by
 simp only [Kx,awP,jy];exact Iff.rfl
theorem apM {j:Nat} {X:Bool} {acl:List Nat} {x:AO} {t r:OP}:Kx Γ fz b0 K (.or j X acl x t r) s↔jy Γ (rA X acl fz b0) (rW X acl fz b0) (b0 + j * KK) s x (Kx Γ fz b0 K t)∧acE Γ fz b0 K r s:=by
 simp only [Kx,acE,awP,jy];exact Iff.rfl
theorem anL {j:Nat} {X:Bool} {acl:List Nat} {x:AO} {t r:OP}:acE Γ fz b0 K (.or j X acl x t r) s↔jy Γ (rA X acl fz b0) (rW X acl fz b0) (b0 + j * KK) s x (Kx Γ fz b0 K t)∧acE Γ fz b0 K r s:=by
 simp only [Kx,acE,aqD,jy];exact Iff.rfl
theorem akn:acE Γ fz b0 K .done s↔True:=by simp only [acE,aqD]
theorem akp {x:Opd} {as:List Opd}:jy Γ A W b s ⟨d,.callv x as,none⟩ J↔W6 Γ A W b s d (s.ev x) (as.map s.ev) J:=by
 simp only [jy,awG,anc,W6]
 cases s.ev x<;>rfl
theorem aq2 {aop:AOp} {g:Nat} {want:Bool}:jy Γ A W b s ⟨d,aop,some (g,want)⟩ J↔vu Γ A W b s ⟨d,aop,none⟩ g want (s.t g) J:=by
 simp only [jy,awG]
 constructor
 ·rintro ⟨q,hq,h1,h2⟩
  unfold vu
  rcases q with _|q
  ·have hq:s.t g = .tup []:=hq
   grind
  ·have hq:s.t g = .bool q:=hq
   rw [hq]
   refine ⟨fun e=>?_,fun e=>?_⟩
   ·rw [qc (by rw [hq,e])];exact h1 (by rw [e])
   grind [qc]
 ·intro h
  unfold vu at h
  split at h
  ·rename_i q hq
   refine ⟨some q,hq,fun e=>?_,fun e=>?_⟩
   ·cases e
    have:=h.1 rfl
    rw [qc hq] at this
    exact this
   ·have e':q = !want:=by cases q<;>cases want<;>simp_all
    grind [qc]
  ·rename_i hq
   exact ⟨none,hq,(fun e=>by cases e),fun _=>h⟩
  ·exact h.elim
theorem arE {a:Nat} {k:Ob→AM E}:awR A W b s d J (.rd a k)↔Vn A W b s d J k (Jt A s.o a):=by
 unfold Vn
 grind [Jt,awR,AM.wp]
theorem aaQ (A:Nat→Bool) (o:Nat→Option Ob) (a:Nat):Jt A o a = if A a = true then o a else none:=rfl
theorem apZ:okW W b []↔True:=by simp [okW]
theorem an3 {q:Nat×Ob} {r:List (Nat×Ob)}:okW W b (q :: r)↔(W q.1 || (decide (b≤q.1) && decide (q.1 < b + KK))) = true∧okW W b r:=by simp [okW]
theorem arH {f:FuncId} {acts:List V} {res:V} (hc:Qu (Jt A s.o) none acts) (h:EvN Γ f (JH (Jt A s.o) acts) res) (hk:J { t:=(s.put d res).t,o:=s.o,n:=s.n }):QP Γ A W b s d f acts J :=
 aqp h.1 rfl hc h.2.1 h.2.2 hk
theorem arJ {f:FuncId} {acts:List V} {res:V} (hc:Qu (Jt A s.o) (some []) acts) (h:EvC Γ f (JH (Jt A s.o) acts) res) (hk:J { t:=(s.put d res).t,o:=s.o,n:=s.n }):QP Γ A W b s d f acts J :=
 aqq h.1 rfl hc h.2 hk
end
section
variable {C:Ctx} {nt:Nat} {s:St} {K:St→Prop} {E:Nat→St→Prop} {R:St→Prop}
theorem aj6 {ks L:List Nat} {ot:OT} {p:OP} {ops:List AO} {ahead:List (List Nat)} {y:AC} (N:Nat) (fz:Nat→Bool) (hN:ops.length = N) (hc:okR ops ahead L ot = true) (hp:jx (ris ops ahead L) ot = p)
  (h:∀ K':St→Prop,(∀ s',AWp C nt y s' K E R→K' s')→Kx C.env fz s.n (fun s'=>K' ((s'.wn (s.n + N * KK)).keep ks)) p s):AWp C nt (Ue ks (apO L ot p ops ahead) y) s K E R:=by
 subst hN
 exact aax (aj8 fz hc hp (h _ fun _ h=>h))
theorem aj7 {L:List Nat} {ot:OT} {p:OP} {ops:List AO} {ahead:List (List Nat)} (N:Nat) (fz:Nat→Bool) (hN:ops.length = N) (hc:okR ops ahead L ot = true) (hp:jx (ris ops ahead L) ot = p)
  (h:∀ K':St→Prop,(∀ s',K s'→K' s')→Kx C.env fz s.n (fun s'=>K' (s'.wn (s.n + N * KK))) p s):AWp C nt (apO L ot p ops ahead) s K E R:=by
 subst hN
 exact aj8 fz hc hp (h _ fun _ h=>h)
end
end Av
end
section
set_option linter.unusedVariables false
namespace Av
open Go
def arR (o:Nat→Option Ob) (off len:Nat):Option Ob→V
 | some (.buf _ s xs)=>.sl s ((xs.drop off).take len)
 | some (.obuf _ s xs)=>.sl s (K8 o ((xs.drop off).take len))
 | _=>.top
def hdC (o:Nat→Option Ob) (br:List Nat) (B:Option (List Nat)) (off len s:Nat) (ys:List V):Option Ob→Prop
 | some (.buf _ s1 xs)=>s1 = s∧ys = (xs.drop off).take len
 | some (.obuf _ s1 xs)=>s1 = s∧QE o br B ((xs.drop off).take len) ys∧ntL ys∧Qa ys
 | _=>False
theorem art (o:Nat→Option Ob) (br:List Nat) (B:Option (List Nat)) (a off len s:Nat) (ys:List V):conv o br B (.hd a off len) (.sl s ys)↔okB B a∧a ∉ br∧hdC o br B off len s ys (o a):=by
 rw [aqk];unfold hdC;constructor
 ·rintro ⟨h1,h2,⟨wr,xs,h3,h4⟩|⟨wr,xs,h3,h4⟩⟩<;>rw [h3]<;>exact ⟨h1,h2,rfl,h4⟩
 ·rintro ⟨h1,h2,h3⟩;split at h3
  ·rename_i wr s1 xs e;obtain ⟨rfl,h4⟩:=h3;exact ⟨h1,h2,.inl ⟨wr,xs,e,h4⟩⟩
  ·rename_i wr s1 xs e;obtain ⟨rfl,h4⟩:=h3;exact ⟨h1,h2,.inr ⟨wr,xs,e,h4⟩⟩
  ·exact h3.elim
def apI (off:Nat):Option Ob→V
 | some (.box _ cs)=>.ro cs off
 | _=>.top
def awB (q want:Bool) (A B:Prop):Prop:=(q = want→A)∧(q = !want→B)
@[congr] theorem arL {q q2 want:Bool} {A B:Prop} (h:q = q2):awB q want A B = awB q2 want A B:=by rw [h]
@[go_sem ↓] theorem asQ {A B:Prop}:awB true true A B = A:=by simp [awB]
@[go_sem ↓] theorem asP {A B:Prop}:awB false true A B = B:=by simp [awB]
@[go_sem ↓] theorem asO {A B:Prop}:awB true false A B = B:=by simp [awB]
@[go_sem ↓] theorem asN {A B:Prop}:awB false false A B = A:=by simp [awB]
theorem aqF {q:Bool} {A B:Prop} (h1:q = true→A) (h2:q = false→B):awB q true A B:=⟨h1,h2⟩
theorem aqG {q:Bool} {A B:Prop} (h1:q = false→A) (h2:q = true→B):awB q false A B:=⟨h1,h2⟩
section
variable {Γ:Env} {A W:Nat→Bool} {fz:Nat→Bool} {b b0:Nat} {r:List AO} {s:St} {d:Option Nat} {J K:St→Prop} {o:Nat→Option Ob} {br:List Nat} {B:Option (List Nat)}
@[go_sem] theorem u1:W7 Γ b [] s K = K { t:=s.t,o:=s.o,n:=b }:=propext Iff.rfl
@[go_sem] theorem u2 {x:AO}:W7 Γ b (x :: r) s K = (match x.g with|none=>(match x.op with|.call f as=>awC Γ b r s x.d f (as.map s.ev) K|.callv y as=>vE Γ b r s x.d (s.ev y) (as.map s.ev) K|op=>awS Γ b r s x.d K (sem b s.ev op))|some (g,want)=>awQ Γ b r s ⟨x.d,x.op,none⟩ g want (s.t g) K):=by
 obtain ⟨d,op,g⟩:=x
 cases g with
 | some p=>obtain ⟨g,want⟩:=p;exact propext aq1
 | none =>
   cases op
   case callv y as=>exact propext ako
   all_goals rfl
@[go_sem] theorem u3 {f:FuncId} {cap acts:List V}:vE Γ b r s d (.clo (.n f) cap) acts K = awC Γ b r s d f (acts++cap) K:=propext Iff.rfl
@[go_sem] theorem u4 {x:AO} {g:Nat} {want q:Bool}:awQ Γ b r s x g want (.sc (.bool q)) K = awB q want (W7 Γ b (⟨x.d,x.op,none⟩ :: r) (s.put (some g) (.bool want)) K) (W7 Γ (b + KK) r ((s.put (some g) (.bool !want)).put x.d V.und) K):=propext Iff.rfl
@[go_sem] theorem u5 {x:AO} {g:Nat} {want:Bool}:awQ Γ b r s x g want (.tup []) K = W7 Γ (b + KK) r (s.put x.d V.und) K:=propext Iff.rfl
@[go_sem] theorem u6 {e:E}:awS Γ b r s d K (.ret e) = W7 Γ (b + KK) r (s.eff d e) K:=propext Iff.rfl
@[go_sem] theorem u7 {p:Prop} {m:AM E}:awS Γ b r s d K (.asrt p m) = (p∧awS Γ b r s d K m):=propext Iff.rfl
@[go_sem] theorem u8 {a:Nat} {k:Ob→AM E}:awS Γ b r s d K (.rd a k) = aay Γ b r s d K k (s.o a):=propext arD
@[go_sem] theorem u9 {k:Bool→AM E}:awS Γ b r s d K (.any k) = ∀ t,awS Γ b r s d K (k t):=propext Iff.rfl
@[go_sem] theorem u10:awS Γ b r s d K .no = False:=propext Iff.rfl
@[go_sem] theorem u11 {k:Ob→AM E} {ob:Ob}:aay Γ b r s d K k (some ob) = awS Γ b r s d K (k ob):=propext Iff.rfl
@[go_sem] theorem u12:Kx Γ fz b0 K .done s = K s:=propext alP
@[go_sem] theorem u13 {j:Nat} {X:Bool} {acl:List Nat} {x:AO} {t r:OP}:Kx Γ fz b0 K (.or j X acl x t r) s = (jy Γ (rA X acl fz b0) (rW X acl fz b0) (b0 + j * KK) s x (Kx Γ fz b0 K t)∧acE Γ fz b0 K r s):=propext apM
@[go_sem] theorem u14 {j:Nat} {X:Bool} {acl:List Nat} {x:AO} {t r:OP}:acE Γ fz b0 K (.or j X acl x t r) s = (jy Γ (rA X acl fz b0) (rW X acl fz b0) (b0 + j * KK) s x (Kx Γ fz b0 K t)∧acE Γ fz b0 K r s):=propext anL
@[go_sem] theorem u15 {j:Nat} {X:Bool} {acl:List Nat} {x:AO} {t:OP}:Kx Γ fz b0 K (.one j X acl x t) s = jy Γ (rA X acl fz b0) (rW X acl fz b0) (b0 + j * KK) s x (Kx Γ fz b0 K t):=propext anK
@[go_sem] theorem u16:acE Γ fz b0 K .done s = True:=propext akn
@[go_sem] theorem u17 {x:AO}:jy Γ A W b s x J = (match x.g with|none=>(match x.op with|.call f as=>QP Γ A W b s x.d f (as.map s.ev) J|.callv y as=>W6 Γ A W b s x.d (s.ev y) (as.map s.ev) J|op=>awR A W b s x.d J (sem b s.ev op))|some (g,want)=>vu Γ A W b s ⟨x.d,x.op,none⟩ g want (s.t g) J):=by
 obtain ⟨d,op,g⟩:=x
 cases g with
 | some p=>obtain ⟨g,want⟩:=p;exact propext aq2
 | none =>
   cases op
   case callv y as=>exact propext akp
   all_goals rfl
@[go_sem] theorem u18 {f:FuncId} {cap acts:List V}:W6 Γ A W b s d (.clo (.n f) cap) acts J = QP Γ A W b s d f (acts++cap) J:=propext Iff.rfl
@[go_sem] theorem u19 {x:AO} {g:Nat} {want q:Bool}:vu Γ A W b s x g want (.sc (.bool q)) J = awB q want (jy Γ A W b (s.put (some g) (.bool want)) ⟨x.d,x.op,none⟩ J) (J ((s.put (some g) (.bool !want)).put x.d V.und)):=propext Iff.rfl
@[go_sem] theorem u20 {x:AO} {g:Nat} {want:Bool}:vu Γ A W b s x g want (.tup []) J = J (s.put x.d V.und):=propext Iff.rfl
@[go_sem] theorem u21:awR A W b s d J .no = False:=propext Iff.rfl
@[go_sem] theorem u22 {e:E}:awR A W b s d J (.ret e) = (okW W b e.os∧J (s.eff d e)):=propext Iff.rfl
@[go_sem] theorem u23 {p:Prop} {m:AM E}:awR A W b s d J (.asrt p m) = (p∧awR A W b s d J m):=propext Iff.rfl
@[go_sem] theorem u24 {a:Nat} {k:Ob→AM E}:awR A W b s d J (.rd a k) = Vn A W b s d J k (Jt A s.o a):=propext arE
@[go_sem] theorem u25 {k:Ob→AM E} {ob:Ob}:Vn A W b s d J k (some ob) = awR A W b s d J (k ob):=propext Iff.rfl
@[go_sem] theorem u26 {A:Nat→Bool} {o:Nat→Option Ob} {a:Nat}:Jt A o a = if A a = true then o a else none:=rfl
@[go_sem] theorem u27 {W:Nat→Bool} {b:Nat}:okW W b [] = True:=propext apZ
@[go_sem] theorem u28 {W:Nat→Bool} {b:Nat} {q:Nat×Ob} {r:List (Nat×Ob)}:okW W b (q :: r) = ((W q.1 || (decide (b≤q.1) && decide (q.1 < b + KK))) = true∧okW W b r):=propext an3
@[go_sem] theorem u29 {X:Bool} {acl:List Nat} {fz:Nat→Bool} {b0 a:Nat}:rA X acl fz b0 a = ((decide (a < b0) && (X || fz a)) || acl.any fun i=>decide (b0 + i * KK≤a) && decide (a < b0 + i * KK + KK)):=rfl
@[go_sem] theorem u30 {X:Bool} {acl:List Nat} {fz:Nat→Bool} {b0 a:Nat}:rW X acl fz b0 a = (X && ((decide (a < b0) && !fz a) || acl.any fun i=>decide (b0 + i * KK≤a) && decide (a < b0 + i * KK + KK))):=rfl
@[go_sem] theorem u31 {s:St} {n:Nat}:s.wn n = { t:=s.t,o:=s.o,n:=n }:=rfl
@[go_sem] theorem u32 {ks:List Nat} {s:St}:s.keep ks = { t:=jz (ks.map fun k=>(k,s.t k)),o:=s.o,n:=s.n }:=rfl
@[go_sem] theorem u33 {α:Type} {f:Nat→α} {a:Nat} {v:α} {i:Nat}:upd f a v i = if i = a then v else f i:=rfl
@[go_sem] theorem u34 {k:Nat} {v:V} {r:List (Nat×V)} {i:Nat}:jz ((k,v) :: r) i = if i = k then v else jz r i:=rfl
@[go_sem] theorem u35 {i:Nat}:jz [] i = .top:=rfl
@[go_sem] theorem u36 {k:Nat} {v:Ob} {r:List (Nat×Ob)} {i:Nat}:abQ ((k,v) :: r) i = if i = k then some v else abQ r i:=rfl
@[go_sem] theorem u37 {i:Nat}:abQ [] i = none:=rfl
@[go_sem] theorem u38 {args:List V} {ins:List Ob}:YX args ins = { t:=fun i=>(args[i]?).getD .top,o:=fun k=>ins[k]?,n:=ins.length }:=rfl
@[go_sem] theorem u39 {ts:List (Nat×V)} {os:List (Nat×Ob)} {n:Nat}:Yo ts os n = { t:=jz ts,o:=abQ os,n:=n }:=rfl
@[go_sem] theorem u40 {α:Type}:([]:List α).length = 0:=rfl
@[go_sem] theorem u41 {α:Type} {a:α} {l:List α}:(a :: l).length = l.length + 1:=rfl
@[go_sem] theorem u42 {α:Type} {a:α} {l:List α}:(a :: l)[0]? = some a:=rfl
@[go_sem] theorem u43 {α:Type} {a:α} {l:List α} {i:Nat}:(a :: l)[i + 1]? = l[i]?:=rfl
@[go_sem] theorem u44 {α:Type} {a b:α}:(some a).getD b = a:=rfl
@[go_sem] theorem u45 {α:Type} {b:α}:(none:Option α).getD b = b:=rfl
@[go_sem] theorem u46 {α β:Type} {f:α→β}:(none:Option α).map f = none:=rfl
@[go_sem] theorem u47 {α β:Type} {f:α→β} {a:α}:(some a).map f = some (f a):=rfl
@[go_sem] theorem u48 {α β:Type} {f:α→β}:([]:List α).map f = []:=rfl
@[go_sem] theorem u49 {α β:Type} {f:α→β} {a:α} {l:List α}:(a :: l).map f = f a :: l.map f:=rfl
@[go_sem] theorem u50 {α:Type} {l:List α}:[]++l = l:=rfl
@[go_sem] theorem u51 {α:Type} {a:α} {l r:List α}:(a :: l)++r = a :: (l++r):=rfl
@[go_sem] theorem u52 {α:Type} {l:List α}:l.take 0 = []:=rfl
@[go_sem] theorem u53 {α:Type} {a:α} {l:List α} {n:Nat}:(a :: l).take (n + 1) = a :: l.take n:=rfl
@[go_sem] theorem u54 {α:Type} {l:List α}:l.drop 0 = l:=rfl
@[go_sem] theorem u55 {α:Type} {a:α} {l:List α} {n:Nat}:(a :: l).drop (n + 1) = l.drop n:=rfl
@[go_sem] theorem u56 {α:Type} {p:α→Bool}:([]:List α).any p = false:=rfl
@[go_sem] theorem u57 {α:Type} {p:α→Bool} {a:α} {l:List α}:(a :: l).any p = (p a || l.any p):=rfl
@[go_sem] theorem u58 {α β:Type} {f:β→α→β} {b:β}:([]:List α).foldl f b = b:=rfl
@[go_sem] theorem u59 {α β:Type} {f:β→α→β} {b:β} {a:α} {l:List α}:(a :: l).foldl f b = l.foldl f (f b a):=rfl
@[go_sem] theorem u60 {α:Type} {a:α}:List.replicate 0 a = []:=rfl
@[go_sem] theorem u61 {α:Type} {n:Nat} {a:α}:List.replicate (n + 1) a = a :: List.replicate n a:=rfl
@[go_sem] theorem u62 {α:Type} {a b:α} {l:List α}:(a :: l).set 0 b = b :: l:=rfl
@[go_sem] theorem u63 {α:Type} {a b:α} {l:List α} {n:Nat}:(a :: l).set (n + 1) b = a :: l.set n b:=rfl
@[go_sem] theorem u64 {n:Nat}:n + 0 = n:=rfl
@[go_sem] theorem u65 {n:Nat}:(n:Int).toNat = n:=rfl
@[go_sem] theorem u66 {α:Type} {i:Nat}:([]:List α)[i]? = none:=by simp
@[go_sem] theorem u67 {α:Type} {l:List α}:l++[] = l:=by simp
@[go_sem] theorem u68 {α:Type} {n:Nat}:([]:List α).take n = []:=by simp
@[go_sem] theorem u69 {α:Type} {n:Nat}:([]:List α).drop n = []:=by simp
@[go_sem] theorem u70 {n:Nat}:0 + n = n:=by simp
@[go_sem] theorem u71 {n:Nat}:(0≤(n:Int)) = True:=by simp
@[go_sem] theorem u72 {n:Nat}:(n≤n) = True:=by simp
@[go_sem] theorem u73 {α:Type} {p:α→Prop} {a:α} {l:List α}:(∀ x∈a :: l,p x) = (p a∧∀ x∈l,p x):=by simp
@[go_sem] theorem u74 {α:Type} {p:α→Prop}:(∀ x∈([]:List α),p x) = True:=by simp
@[go_sem] theorem u75 {α:Type} {a:α}:(a∈([]:List α)) = False:=by simp
@[go_sem] theorem u76 {p:Prop}:(True∧p) = p:=by simp
@[go_sem] theorem u77 {p:Prop}:(p∧True) = p:=by simp
@[go_sem] theorem u78 {p:Prop}:(False∧p) = False:=by simp
@[go_sem] theorem u79 {p:Prop}:(True∨p) = True:=by simp
@[go_sem] theorem u80 {p:Prop}:(p∨True) = True:=by simp
@[go_sem] theorem u81 {p:Prop}:(False∨p) = p:=by simp
@[go_sem] theorem u82 {p:Prop}:(p∨False) = p:=by simp
@[go_sem] theorem u83:(¬ True) = False:=by simp
@[go_sem] theorem u84:(¬ False) = True:=by simp
@[go_sem] theorem u85 {p:Prop}:(False→p) = True:=by simp
@[go_sem] theorem u86 {p:Prop}:(True→p) = p:=by simp
@[go_sem] theorem u87 {α:Type}:(α→True) = True:=by simp
@[go_sem] theorem u88 {p:Prop}:(p→True) = True:=by simp
@[go_sem] theorem u89:(false = true) = False:=by simp
@[go_sem] theorem u90:(true = false) = False:=by simp
@[go_sem] theorem u91 {α:Type} {a b:α}:(some a = some b) = (a = b):=by simp
@[go_sem] theorem u92 {α:Type} {a:α}:(a = a) = True:=by simp
@[go_sem] theorem u93:decide True = true:=by simp
@[go_sem] theorem u94:decide False = false:=by simp
@[go_sem] theorem u95:(!true) = false:=rfl
@[go_sem] theorem u96:(!false) = true:=rfl
@[go_sem] theorem u97 {b:Bool}:(true && b) = b:=rfl
@[go_sem] theorem u98 {b:Bool}:(false && b) = false:=rfl
@[go_sem] theorem u99 {b:Bool}:(true || b) = true:=rfl
@[go_sem] theorem aux {b:Bool}:(false || b) = b:=rfl
@[go_sem] theorem auw {α:Type} {a b:α}:(a≠b) = ¬ (a = b):=rfl
@[go_sem] theorem auv {b:Bool}:(b && true) = b:=by simp
@[go_sem] theorem auu {b:Bool}:(b && false) = false:=by simp
@[go_sem] theorem aut {b:Bool}:(b || true) = true:=by simp
@[go_sem] theorem aus {b:Bool}:(b || false) = b:=by simp
@[go_sem] theorem aur {v:V}:conv o br B v .top = True:=propext (by apply apm)
@[go_sem] theorem auq {v u:Value}:conv o br B (.sc v) (.sc u) = (v = u):=propext (by apply asf)
@[go_sem] theorem aup {s:Nat} {ys:List V}:conv o br B (.sc (.slice none 0 0)) (.sl s ys) = (ys = []):=propext (by apply ars)
@[go_sem] theorem auo {s s':Nat} {xs ys:List V}:conv o br B (.sl s xs) (.sl s' ys) = (s = s'∧xs = ys):=propext (by apply ase)
@[go_sem] theorem aun {a off len s:Nat} {ys:List V}:conv o br B (.hd a off len) (.sl s ys) = (okB B a∧a ∉ br∧hdC o br B off len s ys (o a)):=propext (by apply art)
@[go_sem] theorem aum {a off off':Nat} {es:List V}:conv o br B (.ptr a off) (.ro es off') = (okB B a∧a ∉ br∧off' = off∧Qa es∧∃ wr cs,o a = some (.box wr cs)∧QE o br B cs es):=propext (by apply arq)
@[go_sem] theorem aul {off off':Nat} {cs es:List V}:conv o br B (.ro cs off) (.ro es off') = (cs = es∧off' = off):=propext (by apply asg)
@[go_sem] theorem auk {cs es:List V}:conv o br B (.agg cs) (.agg es) = QE o br B cs es:=propext (by apply arv)
@[go_sem] theorem auj {cs es:List V}:conv o br B (.tup cs) (.tup es) = QE o br B cs es:=propext (by apply arp)
@[go_sem] theorem aui {f g:FK} {cs es:List V}:conv o br B (.clo f cs) (.clo g es) = (f = g∧QE o br B cs es):=propext (by apply aru)
@[go_sem] theorem auh :conv o br B .nn .nn = True:=propext (by apply ash)
@[go_sem] theorem aug:QE o br B [] [] = True:=propext (aql _ _ _)
@[go_sem] theorem auf {v e:V} {r r':List V}:QE o br B (v :: r) (e :: r') = (conv o br B v e∧QE o br B r r'):=propext (aou _ _ _ _ _ _ _)
@[go_sem] theorem aue {a:Nat}:okB none a = True:=propext (an6 _)
@[go_sem] theorem aud {l:List Nat} {a:Nat}:okB (some l) a = (a∈l):=propext (an5 _ _)
@[go_sem] theorem auc {wr0:Bool} {s0 s:Nat} {xs0:List V} {p:List V→Prop}:(∃ wr xs,some (Ob.buf wr0 s0 xs0) = some (Ob.buf wr s xs)∧p xs) = (s0 = s∧p xs0):=propext akR
@[go_sem] theorem aub {wr0:Bool} {s0 s:Nat} {xs0:List V} {p:List V→Prop}:(∃ wr xs,Ob.buf wr0 s0 xs0 = Ob.buf wr s xs∧p xs) = (s0 = s∧p xs0):=propext aiU
@[go_sem] theorem aua {wr0:Bool} {cs0:List V} {p:List V→Prop}:(∃ wr cs,some (Ob.box wr0 cs0) = some (Ob.box wr cs)∧p cs) = p cs0:=propext akS
@[go_sem] theorem at9 {wr0:Bool} {cs0:List V} {p:List V→Prop}:(∃ wr cs,Ob.box wr0 cs0 = Ob.box wr cs∧p cs) = p cs0:=propext aiV
@[go_sem] theorem at8 {wr0:Bool} {s0:Nat} {xs0:List V}:(∃ wr s xs,some (Ob.buf wr0 s0 xs0) = some (Ob.buf wr s xs)) = True:=eq_true ⟨wr0,s0,xs0,rfl⟩
@[go_sem] theorem at7 {wr0:Bool} {s0:Nat} {xs0:List V}:(∃ wr s xs,Ob.buf wr0 s0 xs0 = Ob.buf wr s xs) = True:=eq_true ⟨wr0,s0,xs0,rfl⟩
@[go_sem] theorem at6 {k:IntKind} {a b:Int}:(Value.int k a = Value.int k b) = (a = b):=by simp
@[go_sem] theorem at5 {a b:Bool}:(Value.bool a = Value.bool b) = (a = b):=by simp
@[go_sem] theorem at4 {l:List UInt8}:(⟨l.toArray⟩:ByteArray).size = l.length:=K6 l
@[go_sem] theorem at3 {l:List UInt8}:l.toArray.toList = l:=by simp
@[go_sem] theorem at2 {l:List UInt8} {a b:Nat}:(⟨l.toArray⟩:ByteArray).extract a b = ⟨((l.drop a).take (b - a)).toArray⟩:=alD l a b
@[go_sem] theorem at1 {a b:List UInt8}:abF .add ⟨a.toArray⟩ ⟨b.toArray⟩ = .asrt (a.length + b.length < 2 ^ 62) (.ret { v:=V.str (a++b) }):=aqz a b
@[go_sem] theorem at0 {a b:List UInt8}:abF .eql ⟨a.toArray⟩ ⟨b.toArray⟩ = .ret { v:=.bool (a == b) }:=aqy a b
@[go_sem] theorem atZ {a b:List UInt8}:abF .neq ⟨a.toArray⟩ ⟨b.toArray⟩ = .ret { v:=.bool (!(a == b)) }:=aqt a b
@[go_sem] theorem atY {a b:List UInt8}:abF .lss ⟨a.toArray⟩ ⟨b.toArray⟩ = .ret { v:=.bool (Op.bytesLess a b) }:=aqu a b
@[go_sem] theorem atX {a b:List UInt8}:abF .leq ⟨a.toArray⟩ ⟨b.toArray⟩ = .ret { v:=.bool (Op.bytesLess a b || a == b) }:=aqv a b
@[go_sem] theorem atW {a b:List UInt8}:abF .gtr ⟨a.toArray⟩ ⟨b.toArray⟩ = .ret { v:=.bool (!(Op.bytesLess a b || a == b)) }:=aqw a b
@[go_sem] theorem atV {a b:List UInt8}:abF .geq ⟨a.toArray⟩ ⟨b.toArray⟩ = .ret { v:=.bool (!(Op.bytesLess a b)) }:=aqx a b
@[go_sem] theorem atU {a b:List UInt8}:(Value.string ⟨a.toArray⟩ = Value.string ⟨b.toArray⟩) = (a = b):=by simp
@[go_sem] theorem atT {v:Value}:V.shut o (.sc v) = .sc v:=by simp only [V.shut]
@[go_sem] theorem atS :V.shut o .nn = .nn:=by simp only [V.shut]
@[go_sem] theorem atR :V.shut o .top = .top:=by simp only [V.shut]
@[go_sem] theorem atQ {k:Nat} {xs:List V}:V.shut o (.sl k xs) = .sl k xs:=by simp only [V.shut]
@[go_sem] theorem atP {cs:List V} {k:Nat}:V.shut o (.ro cs k) = .ro cs k:=by simp only [V.shut]
@[go_sem] theorem atO {cs:List V}:V.shut o (.agg cs) = .agg (JH o cs):=by simp only [V.shut]
@[go_sem] theorem atN {cs:List V}:V.shut o (.tup cs) = .tup (JH o cs):=by simp only [V.shut]
@[go_sem] theorem atM {f:FK} {cs:List V}:V.shut o (.clo f cs) = .clo f (JH o cs):=by simp only [V.shut]
@[go_sem] theorem atL {a off len:Nat}:V.shut o (.hd a off len) = arR o off len (o a):=by simp only [V.shut,arR]<;>rfl
@[go_sem] theorem atK {a off:Nat}:V.shut o (.ptr a off) = apI off (o a):=by simp only [V.shut,apI]<;>rfl
@[go_sem] theorem atJ {off len s:Nat} {wr:Bool} {xs:List V}:arR o off len (some (.buf wr s xs)) = .sl s ((xs.drop off).take len):=rfl
@[go_sem] theorem atI {off:Nat} {wr:Bool} {cs:List V}:apI off (some (.box wr cs)) = .ro cs off:=rfl
@[go_sem] theorem atH:JH o [] = []:=by simp only [JH]
@[go_sem] theorem atG {v:V} {cs:List V}:JH o (v :: cs) = v.shut o :: JH o cs:=by simp only [JH]
@[go_sem] theorem atF {v:Value}:V.shutOk o B (.sc v) = True:=by simp only [V.shutOk]
@[go_sem] theorem atE :V.shutOk o B .nn = True:=by simp only [V.shutOk]
@[go_sem] theorem atD :V.shutOk o B .top = True:=by simp only [V.shutOk]
@[go_sem] theorem atC {k:Nat} {xs:List V}:V.shutOk o B (.sl k xs) = True:=by simp only [V.shutOk]
@[go_sem] theorem atB {cs:List V} {k:Nat}:V.shutOk o B (.ro cs k) = True:=by simp only [V.shutOk]
@[go_sem] theorem atA {a off len:Nat}:V.shutOk o B (.hd a off len) = (okB B a∧aqQ o B off len (o a)):=by simp only [V.shutOk]
@[go_sem] theorem atz {a off:Nat}:V.shutOk o B (.ptr a off) = (okB B a∧∃ wr cs,o a = some (.box wr cs)∧Qa cs):=by simp only [V.shutOk]
@[go_sem] theorem aty {cs:List V}:V.shutOk o B (.agg cs) = Qu o B cs:=by simp only [V.shutOk]
@[go_sem] theorem atx {cs:List V}:V.shutOk o B (.tup cs) = Qu o B cs:=by simp only [V.shutOk]
@[go_sem] theorem atw {f:FK} {cs:List V}:V.shutOk o B (.clo f cs) = Qu o B cs:=by simp only [V.shutOk]
@[go_sem] theorem atv:Qu o B [] = True:=by simp only [Qu]
@[go_sem] theorem atu {v:V} {cs:List V}:Qu o B (v :: cs) = (v.shutOk o B∧Qu o B cs):=by simp only [Qu]
@[go_sem] theorem att {v:Value}:V.closed (.sc v) = True:=by simp only [V.closed]
@[go_sem] theorem ats :V.closed .nn = True:=by simp only [V.closed]
@[go_sem] theorem atr :V.closed .top = True:=by simp only [V.closed]
@[go_sem] theorem atq {k:Nat} {xs:List V}:V.closed (.sl k xs) = True:=by simp only [V.closed]
@[go_sem] theorem atp {cs:List V} {k:Nat}:V.closed (.ro cs k) = True:=by simp only [V.closed]
@[go_sem] theorem ato {cs:List V}:V.closed (.agg cs) = Qa cs:=by simp only [V.closed]
@[go_sem] theorem atn {cs:List V}:V.closed (.tup cs) = Qa cs:=by simp only [V.closed]
@[go_sem] theorem atm {f:FK} {cs:List V}:V.closed (.clo f cs) = Qa cs:=by simp only [V.closed]
@[go_sem] theorem atl:Qa [] = True:=by simp only [Qa]
@[go_sem] theorem atk {v:V} {cs:List V}:Qa (v :: cs) = (v.closed∧Qa cs):=by simp only [Qa]
@[go_sem] theorem atj {v:Value}:V.cells (.sc v) = [.sc v]:=by simp only [V.cells]
@[go_sem] theorem ati {k:Nat} {xs:List V}:V.cells (.sl k xs) = [.sl k xs]:=by simp only [V.cells]
@[go_sem] theorem ath {a off len:Nat}:V.cells (.hd a off len) = [.hd a off len]:=by simp only [V.cells]
@[go_sem] theorem atg {a off:Nat}:V.cells (.ptr a off) = [.ptr a off]:=by simp only [V.cells]
@[go_sem] theorem atf {cs:List V} {k:Nat}:V.cells (.ro cs k) = [.ro cs k]:=by simp only [V.cells]
@[go_sem] theorem ate {cs:List V}:V.cells (.agg cs) = cs:=by simp only [V.cells]
@[go_sem] theorem atd {f:FK} {cs:List V}:V.cells (.clo f cs) = [.clo f cs]:=by simp only [V.cells]
@[go_sem] theorem atc :V.cells .nn = [.nn]:=by simp only [V.cells]
@[go_sem] theorem atb:JU [] [] [] = some true:=by simp only [JU]
@[go_sem] theorem ata {ks:List Nat} {k k':IntKind} {a b:Int} {xs ys:List V}:JU (0 :: ks) (.sc (.int k a) :: xs) (.sc (.int k' b) :: ys) = if k = k' then (JU ks xs ys).map ((a == b) && ·) else none:=by simp only [JU]
@[go_sem] theorem as9 {ks:List Nat} {a b:List UInt8} {xs ys:List V}:JU (1 :: ks) (.sc (.string ⟨a.toArray⟩) :: xs) (.sc (.string ⟨b.toArray⟩) :: ys) = (JU ks xs ys).map ((a == b) && ·):=by simp only [JU];congr;funext t;congr 1;rw [Zt];simp;show (a.toArray == b.toArray) = true↔a = b;simp
@[go_sem] theorem as8 {ks:List Nat} {a b:Bool} {xs ys:List V}:JU (2 :: ks) (.sc (.bool a) :: xs) (.sc (.bool b) :: ys) = (JU ks xs ys).map ((a == b) && ·):=by simp only [JU]
@[go_sem] theorem as7 {l:List UInt8}:(l == l) = true:=by simp
@[go_sem] theorem as6 {n:Int}:(n == n) = true:=by simp
@[go_sem] theorem as5 {k:IntKind}:(k == k) = true:=by cases k<;>rfl
@[go_sem] theorem as4 {f:FuncId} {cap acts:List V}:vE Γ b r s d (.clo (.m f) cap) acts K = awC Γ b r s d f (cap++acts) K:=propext Iff.rfl
@[go_sem] theorem as3 {f:FuncId} {cap acts:List V}:W6 Γ A W b s d (.clo (.m f) cap) acts J = QP Γ A W b s d f (cap++acts) J:=propext Iff.rfl
@[go_sem] theorem as2 {off len s:Nat} {ys:List V} {wr:Bool} {s1:Nat} {xs:List V}:hdC o br B off len s ys (some (.buf wr s1 xs)) = (s1 = s∧ys = (xs.drop off).take len):=rfl
@[go_sem] theorem as1 {off len s:Nat} {ys:List V} {wr:Bool} {s1:Nat} {xs:List V}:hdC o br B off len s ys (some (.obuf wr s1 xs)) = (s1 = s∧QE o br B ((xs.drop off).take len) ys∧ntL ys∧Qa ys):=rfl
@[go_sem] theorem as0 {off len s:Nat} {wr:Bool} {xs:List V}:arR o off len (some (.obuf wr s xs)) = .sl s (K8 o ((xs.drop off).take len)):=rfl
@[go_sem] theorem asZ {off len s:Nat} {wr:Bool} {xs:List V}:aqQ o B off len (some (.buf wr s xs)) = True:=rfl
@[go_sem] theorem asY {off len s:Nat} {wr:Bool} {xs:List V}:aqQ o B off len (some (.obuf wr s xs)) = (Ud o B ((xs.drop off).take len)∧ntL (K8 o ((xs.drop off).take len))):=rfl
@[go_sem] theorem asX {l:List Nat} {k:Nat→AM E}:awS Γ b r s d K (.anyN l k) = (l≠[]∧∀ i∈l,awS Γ b r s d K (k i)):=propext Iff.rfl
@[go_sem] theorem asW {ag:Bool} {ks:List Nat} {k:V} {i:Nat}:VR ag ks k [] i = some none:=rfl
@[go_sem] theorem asV {ks:List Nat} {u v:Value}:wD false ks (.sc u) (.sc v) = JU ks [.sc u] [.sc v]:=rfl
@[go_sem] theorem asU {ks:List Nat} {u v:List V}:wD true ks (.agg u) (.agg v) = JU ks u v:=rfl
@[go_sem] theorem asT {a:Nat}:V.cells (.mp a) = [.mp a]:=by simp only [V.cells]
@[go_sem] theorem asS {a k:Nat}:conv o br B (.mp a) (.mp k) = (br[k]? = some a):=by simp only [conv]
end
attribute [go_sem] KK sem AM.int AM.str AM.slice AM.sliceK aqr AM.cellsAt aoD St.eff St.put St.ev xv V.ofV ZC.v yT aqN splice afs V.mk xH V.small KC aih UZ ag1 Int.cast_ofNat_Int V.und
end Av
end
