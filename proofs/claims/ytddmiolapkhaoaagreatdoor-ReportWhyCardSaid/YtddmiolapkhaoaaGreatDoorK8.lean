/- Strings as lists of bytes, lists of integers: what the operations do to them. -/
import Derived.Test.YtddmiolapkhaoaaGreatDoorK7
import Derived.Laws.Strings
set_option linter.unusedVariables false
set_option linter.unusedSimpArgs false
section
namespace Av
open Go
theorem aqM (l:List UInt8):(⟨l.toArray⟩:ByteArray).size = l.length:=by simp [ByteArray.size]
theorem axd (a b:List UInt8):(⟨a.toArray⟩:ByteArray)++⟨b.toArray⟩ = ⟨(a++b).toArray⟩:=by
 apply ByteArray.ext
 simp
theorem adX (l:List UInt8):(⟨l.toArray⟩:ByteArray).toList = l:=by
 exact ByteArray.toList_mk l
theorem axc (l:List UInt8) (a b:Nat):(⟨l.toArray⟩:ByteArray).extract a b = ⟨((l.drop a).take (b - a)).toArray⟩:=by
 apply ByteArray.ext
 simp [List.extract_eq_take_drop]
theorem ax8 (a b:List UInt8):aiA .add ⟨a.toArray⟩ ⟨b.toArray⟩ = .asrt (a.length + b.length < 2 ^ 62) (.ret { v:=V.str (a++b) }):=by
 simp only [aiA,aqM,axd]
theorem ax7 (a b:List UInt8):aiA .eql ⟨a.toArray⟩ ⟨b.toArray⟩ = .ret { v:=.bool (a == b) }:=by
 simp only [aiA,adX]
theorem ax2 (a b:List UInt8):aiA .neq ⟨a.toArray⟩ ⟨b.toArray⟩ = .ret { v:=.bool (!(a == b)) }:=by
 simp only [aiA,adX]
theorem ax3 (a b:List UInt8):aiA .lss ⟨a.toArray⟩ ⟨b.toArray⟩ = .ret { v:=.bool (Op.bytesLess a b) }:=by
 simp only [aiA,adX]
theorem ax4 (a b:List UInt8):aiA .leq ⟨a.toArray⟩ ⟨b.toArray⟩ = .ret { v:=.bool (Op.bytesLess a b || a == b) }:=by
 simp only [aiA,adX]
theorem ax5 (a b:List UInt8):aiA .gtr ⟨a.toArray⟩ ⟨b.toArray⟩ = .ret { v:=.bool (!(Op.bytesLess a b || a == b)) }:=by
 simp only [aiA,adX]
theorem ax6 (a b:List UInt8):aiA .geq ⟨a.toArray⟩ ⟨b.toArray⟩ = .ret { v:=.bool (!(Op.bytesLess a b)) }:=by
 simp only [aiA,adX]
theorem asN {l:List V} (h:∀ v∈l,v.closed):Qh l:=by
 induction l with
 | nil=>trivial
 | cons v l ih=>exact ⟨h v (by simp),ih fun u hu=>h u (by simp [hu])⟩
end Av
end
section
namespace Av
open Go
theorem QJ {α:Type} {l:List α} {k:Nat} {y:α} {r:List α} (h:l.drop k = y :: r):k < l.length∧l[k]? = some y∧l.drop (k + 1) = r:=by
 have hk:k < l.length:=by
  rcases kI k l.length with h'|h'
  ·exact h'
  ·rw [List.drop_of_length_le h'] at h;cases h
 rw [ka hk] at h
 simp only [km] at h
 exact ⟨hk,by rw [zb hk,h.1],h.2⟩
theorem QY {α:Type} {l:List α} {k:Nat} (h:l.drop k = []):l.length≤k:=by simpa using h
theorem Qq {k:Nat} (h:k < 2 ^ 62):IntKind.i64.wrap ((k:Int) + 1) = ((k + 1:Nat):Int):=by
 rw [Q7 (by omega) (by omega)];omega
def Xr:List (Nat×V)→Nat→V→V
 | [],_,v=>v
 | (j,u) :: r,k,v=>if k = j then u else Xr r k v
def ovT (ts:List (Nat×V)):List (Nat×V)→List (Nat×V)
 | []=>[]
 | (k,v) :: r=>(k,Xr ts k v) :: ovT ts r
def ltO (n:Nat) (o:Nat→Option Ob):Prop:=∀ a x,o a = some x→a < n∧x.lt n
theorem ajX {n:Nat} {o:Nat→Option Ob} {a:Nat} {x:Ob} (h1:a < n) (h2:x.lt n) (h:ltO n o):ltO n (upd o a (some x)):=by
 intro b y hb
 by_cases e:b = a
 ·subst e;rw [Qn] at hb;cases hb;exact ⟨h1,h2⟩
 ·rw [QW _ _ e] at hb;exact h b y hb
theorem avL {n:Nat}:ltO n (fun _=>none):=by intro a x h;cases h
def ltT (n:Nat) (l:List (Nat×V)):Prop:=∀ p∈l,p.2.lt n
theorem apZ {n:Nat}:ltT n []:=by intro p hp;cases hp
theorem amE {n k:Nat} {v:V} {r:List (Nat×V)} (h1:v.lt n) (h:ltT n r):ltT n ((k,v) :: r):=by
 intro p hp
 rcases zy.1 hp with rfl|hp
 ·exact h1
 ·exact h p hp
def eqT (t:Nat→V) (τ:Nat→Nat) (l:List (Nat×V)):Prop:=∀ p∈l,t p.1 = p.2.ren τ
theorem WQ {t:Nat→V} {τ:Nat→Nat}:eqT t τ []:=by intro p hp;cases hp
theorem XQ {t:Nat→V} {τ:Nat→Nat} {k:Nat} {v:V} {r:List (Nat×V)}:eqT t τ ((k,v) :: r)↔t k = v.ren τ∧eqT t τ r:=by
 constructor
 ·intro h;exact ⟨h (k,v) (by simp),fun p hp=>h p (by simp [hp])⟩
 ·rintro ⟨h1,h2⟩ p hp
  rcases zy.1 hp with rfl|hp
  ·exact h1
  ·exact h2 p hp
def okN (n m:Nat) (rn:List (Nat×Nat)):Prop:=(∀ p∈rn,n≤p.2∧m≤p.1)∧(rn.map (·.2)).Nodup
theorem abu:∀ (rn:List (Nat×Nat)) (a:Nat),(Qi rn a = a∧∀ p∈rn,p.1≠a)∨(a,Qi rn a)∈rn
 | [],a=>.inl ⟨rfl,by simp⟩
 | (k,v) :: r,a=>by
  simp only [Qi]
  split
  ·rename_i h;subst h;exact .inr (by simp)
  ·rename_i h
   rcases abu r a with ⟨h1,h2⟩|h'
   ·refine .inl ⟨h1,fun p hp=>?_⟩
    rcases zy.1 hp with rfl|hp
    ·exact fun e=>h e.symm
    ·exact h2 p hp
   ·exact .inr (by simp [h'])
theorem at9 {n m:Nat} {rn:List (Nat×Nat)} (h:okN n m rn) {a b:Nat} (ha:a < n) (hb:b < n) (e:Qi rn a = Qi rn b):a = b:=by
 rcases abu rn a with ⟨h1,_⟩|h1<;>rcases abu rn b with ⟨h2,_⟩|h2
 ·omega
 ·have:=(h.1 _ h2).1;simp only at this;omega
 ·have:=(h.1 _ h1).1;simp only at this;omega
 ·have:=abq h.2 h1 h2 e
  simpa using congrArg Prod.fst this
theorem aua {n m:Nat} {rn:List (Nat×Nat)} (h:okN n m rn) {k:Nat} (hk:k < m):Qi rn k = k:=by
 rcases abu rn k with ⟨h1,_⟩|h1
 ·exact h1
 ·have:=(h.1 _ h1).2;simp only at this;omega
theorem ata (τ:Nat→Nat) (n:Nat) (x:Ob) (h:x.lt n):(x.ren τ).weak τ n x:=by
 induction x with
 | dead=>trivial
 | typ T x ih=>exact ⟨rfl,ih h⟩
 | box wr cs=>exact ⟨fun h=>h,rfl,h⟩
 | buf wr s xs=>exact ⟨fun h=>h,rfl,rfl⟩
 | obuf wr s xs=>exact ⟨fun h=>h,rfl,rfl,h⟩
 | map ks vs c0=>exact ⟨rfl,rfl,rfl,h⟩
 | iter a since seen last=>exact ⟨rfl,h,rfl,rfl,rfl⟩
theorem awA {m n:Nat} {s:St} {l:List (Nat×V)} {o:Nat→Option Ob} (rn:List (Nat×Nat)) (hn:okN n m rn) (hm:m≤n) (hl:ltT n l) (hlo:ltO n o)
  (ht:eqT s.t (Qi rn) l) (ho:∀ a,a < n→s.o (Qi rn a) = (o a).map (Ob.ren (Qi rn))):arU m (Qi rn) s { t:=xb l,o:=o,n:=n }:=by
 refine ⟨fun i=>?_,fun a y h=>?_,fun a b ha hb e=>?_,fun k hk=>aua hn hk,hm⟩
 ·rcases afS l i with h|h
  ·exact .inl h
  ·exact .inr ⟨ht _ h,hl _ h⟩
 ·obtain ⟨h1,h2⟩:=hlo a y h
  refine ⟨h1,_,?_,ata (Qi rn) n y h2⟩
  have:=ho a h1
  simp only at h
  rw [h] at this
  exact this
 ·obtain ⟨x,hx⟩:=Zy.1 ha
  obtain ⟨y,hy⟩:=Zy.1 hb
  exact at9 hn (hlo a x hx).1 (hlo b y hy).1 e
section
variable {C:Ctx} {nt:Nat} {K:St→Prop} {E:Nat→St→Prop} {R:St→Prop}
theorem ayu:∀ (k:Nat) (v:V),SizeOf.sizeOf v≤k→v.ren (fun a=>a) = v:=by
 intro k
 induction k with
 | zero=>intro v h;cases v<;>simp at h
 | succ k ih =>
   intro v h
   have list:∀ cs:List V,SizeOf.sizeOf cs≤k→K3 (fun a=>a) cs = cs:=by
    intro cs
    induction cs with
    | nil=>intro _;rfl
    | cons u r ihr=>intro hs;simp at hs;simp only [K3];rw [ih u (by omega),ihr (by omega)]
   cases v<;>simp only [V.ren]<;>simp at h
   all_goals (rw [list _ (by omega)])
theorem alK (v:V):v.ren (fun a=>a) = v:=ayu _ v (zl _)
theorem azv (cs:List V):K3 (fun a=>a) cs = cs:=by induction cs with
 | nil=>rfl
 | cons v r ih=>simp only [K3,alK,ih]
theorem azu (x:Ob):x.ren (fun a=>a) = x:=by induction x<;>simp_all [Ob.ren,azv]
theorem ajY:Qi [] = fun a=>a:=by funext a;rfl
theorem Jc {ks:List Nat} {x:AC} {base:List (Nat×V)} {o0:Nat→Option Ob} {n0:Nat} {ι:Type} (good:ι→Prop) (ts:ι→List (Nat×V)) (msr:ι→Nat) (i0:ι)
  (hm:C.m≤n0) (h0:good i0) (hlo:ltO n0 o0) (hl:∀ i,good i→ltT n0 (ovT (ts i) base)) (ht:eqT (xb base) (fun a=>a) (ovT (ts i0) base))
  (h:∀ i,good i→∀ K':St→Prop,(∀ s' i',eqT s'.t (fun a=>a) (ovT (ts i') base)→good i'→msr i' < msr i→(∀ a,a < n0→s'.o a = o0 a)→K' s') →
    AWp C nt x { t:=xb (ovT (ts i) base),o:=o0,n:=n0 } K' E R):AWp C nt (JG ks x) { t:=xb base,o:=o0,n:=n0 } K E R:=by
 have hn:okN n0 C.m []:=⟨by simp,by simp⟩
 have ren0:∀ oo:Nat→Option Ob,∀ a,(oo a).map (Ob.ren (Qi [])) = oo a:=by
  intro oo a
  rw [ajY]
  cases oo a with
  | none=>rfl
  | some x=>simp [azu]
 refine QC good (fun i=>{ t:=xb (ovT (ts i) base),o:=o0,n:=n0 }) msr i0 h0 (Qi []) (awA [] hn hm (hl i0 h0) hlo (by rw [ajY];exact ht) (fun a _=>(ren0 o0 a).symm)) ?_
 intro i hi K' hK
 exact h i hi K' fun s' i' h1 h2 h3 h4=>hK s' i' (Qi []) h2 h3 (awA [] hn hm (hl i' h2) hlo (by rw [ajY];exact h1) (fun a ha=>(h4 a ha).trans (ren0 o0 a).symm))
end
end Av
end
section
namespace Av
open Go
def awR (A W:Nat→Bool) (b:Nat) (s:St) (d:Option Nat) (J:St→Prop) (m:AM E):Prop:=m.wp (Yl A s.o) fun e=>okW W b e.os∧J (s.eff d e)
def yv (A W:Nat→Bool) (b:Nat) (s:St) (d:Option Nat) (J:St→Prop) (k:Ob→AM E) (x:Option Ob):Prop :=
 match x with
 | some ob=>awR A W b s d J (k ob)
 | none=>False
def acE (Γ:Env) (A W:Nat→Bool) (b:Nat) (s:St) (x:AO) (J:St→Prop):Prop:=awG Γ A W b s x J
def abh (Γ:Env) (fz:Nat→Bool) (b0:Nat) (K:St→Prop) (t:OP) (s:St):Prop:=awP Γ fz b0 K t s
def ajF (Γ:Env) (fz:Nat→Bool) (b0:Nat) (K:St→Prop) (t:OP) (s:St):Prop:=ayb Γ fz b0 K t s
def aiB (Γ:Env) (A W:Nat→Bool) (b:Nat) (s:St) (x:AO) (g:Nat) (want:Bool) (v:V) (J:St→Prop):Prop :=
 match v with
 | .sc (.bool q)=>(q = want→acE Γ A W b (s.put (some g) (.bool want)) { d:=x.d,op:=x.op } J)∧(q = !want→J ((s.put (some g) (.bool !want)).put x.d V.und))
 | .tup []=>J (s.put x.d V.und)
 | _=>False
def jG (Γ:Env) (A W:Nat→Bool) (b:Nat) (s:St) (d:Option Nat) (v:V) (acts:List V) (J:St→Prop):Prop :=
 match v with
 | .clo f cap=>Jo Γ A W b s d f.f (f.args acts cap) J
 | _=>False
section
variable {Γ:Env} {A W:Nat→Bool} {fz:Nat→Bool} {b b0:Nat} {s:St} {d:Option Nat} {J K:St→Prop}
theorem atq:abh Γ fz b0 K .done s↔K s:=by simp only [abh,awP]
theorem avk {j:Nat} {X:Bool} {acl:List Nat} {x:AO} {t:OP}:abh Γ fz b0 K (.one j X acl x t) s↔acE Γ (rA X acl fz b0) (rW X acl fz b0) (b0 + j * KK) s x (abh Γ fz b0 K t):=by
 simp only [abh,awP,acE];exact Iff.rfl
theorem axi {j:Nat} {X:Bool} {acl:List Nat} {x:AO} {t r:OP}:abh Γ fz b0 K (.or j X acl x t r) s↔acE Γ (rA X acl fz b0) (rW X acl fz b0) (b0 + j * KK) s x (abh Γ fz b0 K t)∧ajF Γ fz b0 K r s:=by
 simp only [abh,ajF,awP,acE];exact Iff.rfl
theorem avl {j:Nat} {X:Bool} {acl:List Nat} {x:AO} {t r:OP}:ajF Γ fz b0 K (.or j X acl x t r) s↔acE Γ (rA X acl fz b0) (rW X acl fz b0) (b0 + j * KK) s x (abh Γ fz b0 K t)∧ajF Γ fz b0 K r s:=by
 simp only [abh,ajF,ayb,acE];exact Iff.rfl
theorem ar4:ajF Γ fz b0 K .done s↔True:=by simp only [ajF,ayb]
theorem ar6 {x:Opd} {as:List Opd}:acE Γ A W b s ⟨d,.callv x as,none⟩ J↔jG Γ A W b s d (s.ev x) (as.map s.ev) J:=by
 simp only [acE,awG,auX,jG]
 cases s.ev x<;>rfl
theorem ayr {aop:AOp} {g:Nat} {want:Bool}:acE Γ A W b s ⟨d,aop,some (g,want)⟩ J↔aiB Γ A W b s ⟨d,aop,none⟩ g want (s.t g) J:=by
 simp only [acE,awG]
 constructor
 ·rintro ⟨q,hq,h1,h2⟩
  unfold aiB
  rcases q with _|q
  ·have hq:s.t g = .tup []:=hq
   rw [hq]
   exact h2 (by simp)
  ·have hq:s.t g = .bool q:=hq
   rw [hq]
   refine ⟨fun e=>?_,fun e=>?_⟩
   ·rw [wa (by rw [hq,e])];exact h1 (by rw [e])
   ·rw [wa (by rw [hq,e])]
    exact h2 (by rw [e];cases want<;>simp)
 ·intro h
  unfold aiB at h
  split at h
  ·rename_i q hq
   refine ⟨some q,hq,fun e=>?_,fun e=>?_⟩
   ·cases e
    have:=h.1 rfl
    rw [wa hq] at this
    exact this
   ·have e':q = !want:=by cases q<;>cases want<;>simp_all
    have:=h.2 e'
    rw [wa (by rw [hq,e'])] at this
    exact this
  ·rename_i hq
   exact ⟨none,hq,(fun e=>by cases e),fun _=>h⟩
  ·exact h.elim
theorem ay5 {a:Nat} {k:Ob→AM E}:awR A W b s d J (.rd a k)↔yv A W b s d J k (Yl A s.o a):=by
 unfold yv
 cases h:Yl A s.o a with
 | none=>simp [awR,AM.wp,h]
 | some ob=>simp [awR,AM.wp,h]
theorem yD (A:Nat→Bool) (o:Nat→Option Ob) (a:Nat):Yl A o a = if A a = true then o a else none:=rfl
theorem axy:okW W b []↔True:=by simp [okW]
theorem avG {q:Nat×Ob} {r:List (Nat×Ob)}:okW W b (q :: r)↔(W q.1 || (decide (b≤q.1) && decide (q.1 < b + KK))) = true∧okW W b r:=by simp [okW]
theorem ay8 {f:FuncId} {acts:List V} {res:V} (hc:QL (Yl A s.o) none acts) (h:EvN Γ f (Y2 (Yl A s.o) acts) res) (hk:J { t:=(s.put d res).t,o:=s.o,n:=s.n }):Jo Γ A W b s d f acts J :=
 axZ h.1 rfl hc h.2.1 h.2.2 hk
theorem aza {f:FuncId} {acts:List V} {res:V} (hc:QL (Yl A s.o) (some []) acts) (h:EvC Γ f (Y2 (Yl A s.o) acts) res) (hk:J { t:=(s.put d res).t,o:=s.o,n:=s.n }):Jo Γ A W b s d f acts J :=
 ax0 h.1 rfl hc h.2 hk
end
section
variable {C:Ctx} {nt:Nat} {s:St} {K:St→Prop} {E:Nat→St→Prop} {R:St→Prop}
theorem awn {ks L:List Nat} {ot:OT} {p:OP} {ops:List AO} {ahead:List (List Nat)} {y:AC} (N:Nat) (fz:Nat→Bool) (hN:ops.length = N) (hc:okR ops ahead L ot = true) (hp:ad1 (ris ops ahead L) ot = p)
  (h:∀ K':St→Prop,(∀ s',AWp C nt y s' K E R→K' s')→abh C.env fz s.n (fun s'=>K' ((s'.wn (s.n + N * KK)).keep ks)) p s):AWp C nt (Qb ks (VD L ot p ops ahead) y) s K E R:=by
 subst hN
 exact ann (arM fz hc hp (h _ fun _ h=>h))
theorem awp {L:List Nat} {ot:OT} {p:OP} {ops:List AO} {ahead:List (List Nat)} (N:Nat) (fz:Nat→Bool) (hN:ops.length = N) (hc:okR ops ahead L ot = true) (hp:ad1 (ris ops ahead L) ot = p)
  (h:∀ K':St→Prop,(∀ s',K s'→K' s')→abh C.env fz s.n (fun s'=>K' (s'.wn (s.n + N * KK))) p s):AWp C nt (VD L ot p ops ahead) s K E R:=by
 subst hN
 exact arM fz hc hp (h _ fun _ h=>h)
end
end Av
end
section
set_option linter.unusedVariables false
namespace Av
open Go
def azi (o:Nat→Option Ob) (off len:Nat):Option Ob→V
 | some (.buf _ s xs)=>.sl s ((xs.drop off).take len)
 | some (.obuf _ s xs)=>.sl s (ab2 o ((xs.drop off).take len))
 | _=>.top
def hdC (o:Nat→Option Ob) (br:List Nat) (B:Option (List Nat)) (off len s:Nat) (ys:List V):Option Ob→Prop
 | some (.buf _ s1 xs)=>s1 = s∧ys = (xs.drop off).take len
 | some (.obuf _ s1 xs)=>s1 = s∧Jn o br B ((xs.drop off).take len) ys∧ntL ys∧Qh ys
 | _=>False
theorem ayU (o:Nat→Option Ob) (br:List Nat) (B:Option (List Nat)) (a off len s:Nat) (ys:List V):conv o br B (.hd a off len) (.sl s ys)↔okB B a∧a ∉ br∧hdC o br B off len s ys (o a):=by
 rw [asF];unfold hdC;constructor
 ·rintro ⟨h1,h2,⟨wr,xs,h3,h4⟩|⟨wr,xs,h3,h4⟩⟩<;>rw [h3]<;>exact ⟨h1,h2,rfl,h4⟩
 ·rintro ⟨h1,h2,h3⟩;split at h3
  ·rename_i wr s1 xs e;obtain ⟨rfl,h4⟩:=h3;exact ⟨h1,h2,.inl ⟨wr,xs,e,h4⟩⟩
  ·rename_i wr s1 xs e;obtain ⟨rfl,h4⟩:=h3;exact ⟨h1,h2,.inr ⟨wr,xs,e,h4⟩⟩
  ·exact h3.elim
def axg (off:Nat):Option Ob→V
 | some (.box _ cs)=>.ro cs off
 | _=>.top
def awB (q want:Bool) (A B:Prop):Prop:=(q = want→A)∧(q = !want→B)
@[congr] theorem azc {q q2 want:Bool} {A B:Prop} (h:q = q2):awB q want A B = awB q2 want A B:=by rw [h]
@[go_sem ↓] theorem aAs {A B:Prop}:awB true true A B = A:=by simp [awB]
@[go_sem ↓] theorem aAr {A B:Prop}:awB false true A B = B:=by simp [awB]
@[go_sem ↓] theorem aAq {A B:Prop}:awB true false A B = B:=by simp [awB]
@[go_sem ↓] theorem aAp {A B:Prop}:awB false false A B = A:=by simp [awB]
theorem ayc {q:Bool} {A B:Prop} (h1:q = true→A) (h2:q = false→B):awB q true A B:=⟨h1,h2⟩
theorem ayd {q:Bool} {A B:Prop} (h1:q = false→A) (h2:q = true→B):awB q false A B:=⟨h1,h2⟩
section
variable {Γ:Env} {A W:Nat→Bool} {fz:Nat→Bool} {b b0:Nat} {r:List AO} {s:St} {d:Option Nat} {J K:St→Prop} {o:Nat→Option Ob} {br:List Nat} {B:Option (List Nat)}
@[go_sem] theorem u1:U3 Γ b [] s K = K { t:=s.t,o:=s.o,n:=b }:=propext Iff.rfl
@[go_sem] theorem u2 {x:AO}:U3 Γ b (x :: r) s K = (match x.g with|none=>(match x.op with|.call f as=>awC Γ b r s x.d f (as.map s.ev) K|.callv y as=>ajc Γ b r s x.d (s.ev y) (as.map s.ev) K|op=>awS Γ b r s x.d K (sem b s.ev op))|some (g,want)=>awQ Γ b r s ⟨x.d,x.op,none⟩ g want (s.t g) K):=by
 obtain ⟨d,op,g⟩:=x
 cases g with
 | some p=>obtain ⟨g,want⟩:=p;exact propext ayq
 | none =>
   cases op
   case callv y as=>exact propext ar5
   all_goals rfl
@[go_sem] theorem u3 {f:FuncId} {cap acts:List V}:ajc Γ b r s d (.clo (.n f) cap) acts K = awC Γ b r s d f (acts++cap) K:=propext Iff.rfl
@[go_sem] theorem u4 {x:AO} {g:Nat} {want q:Bool}:awQ Γ b r s x g want (.sc (.bool q)) K = awB q want (U3 Γ b (⟨x.d,x.op,none⟩ :: r) (s.put (some g) (.bool want)) K) (U3 Γ (b + KK) r ((s.put (some g) (.bool !want)).put x.d V.und) K):=propext Iff.rfl
@[go_sem] theorem u5 {x:AO} {g:Nat} {want:Bool}:awQ Γ b r s x g want (.tup []) K = U3 Γ (b + KK) r (s.put x.d V.und) K:=propext Iff.rfl
@[go_sem] theorem u6 {e:E}:awS Γ b r s d K (.ret e) = U3 Γ (b + KK) r (s.eff d e) K:=propext Iff.rfl
@[go_sem] theorem u7 {p:Prop} {m:AM E}:awS Γ b r s d K (.asrt p m) = (p∧awS Γ b r s d K m):=propext Iff.rfl
@[go_sem] theorem u8 {a:Nat} {k:Ob→AM E}:awS Γ b r s d K (.rd a k) = ajv Γ b r s d K k (s.o a):=propext ay4
@[go_sem] theorem u9 {k:Bool→AM E}:awS Γ b r s d K (.any k) = ∀ t,awS Γ b r s d K (k t):=propext Iff.rfl
@[go_sem] theorem u10:awS Γ b r s d K .no = False:=propext Iff.rfl
@[go_sem] theorem u11 {k:Ob→AM E} {ob:Ob}:ajv Γ b r s d K k (some ob) = awS Γ b r s d K (k ob):=propext Iff.rfl
@[go_sem] theorem u12:abh Γ fz b0 K .done s = K s:=propext atq
@[go_sem] theorem u13 {j:Nat} {X:Bool} {acl:List Nat} {x:AO} {t r:OP}:abh Γ fz b0 K (.or j X acl x t r) s = (acE Γ (rA X acl fz b0) (rW X acl fz b0) (b0 + j * KK) s x (abh Γ fz b0 K t)∧ajF Γ fz b0 K r s):=propext axi
@[go_sem] theorem u14 {j:Nat} {X:Bool} {acl:List Nat} {x:AO} {t r:OP}:ajF Γ fz b0 K (.or j X acl x t r) s = (acE Γ (rA X acl fz b0) (rW X acl fz b0) (b0 + j * KK) s x (abh Γ fz b0 K t)∧ajF Γ fz b0 K r s):=propext avl
@[go_sem] theorem u15 {j:Nat} {X:Bool} {acl:List Nat} {x:AO} {t:OP}:abh Γ fz b0 K (.one j X acl x t) s = acE Γ (rA X acl fz b0) (rW X acl fz b0) (b0 + j * KK) s x (abh Γ fz b0 K t):=propext avk
@[go_sem] theorem u16:ajF Γ fz b0 K .done s = True:=propext ar4
@[go_sem] theorem u17 {x:AO}:acE Γ A W b s x J = (match x.g with|none=>(match x.op with|.call f as=>Jo Γ A W b s x.d f (as.map s.ev) J|.callv y as=>jG Γ A W b s x.d (s.ev y) (as.map s.ev) J|op=>awR A W b s x.d J (sem b s.ev op))|some (g,want)=>aiB Γ A W b s ⟨x.d,x.op,none⟩ g want (s.t g) J):=by
 obtain ⟨d,op,g⟩:=x
 cases g with
 | some p=>obtain ⟨g,want⟩:=p;exact propext ayr
 | none =>
   cases op
   case callv y as=>exact propext ar6
   all_goals rfl
@[go_sem] theorem u18 {f:FuncId} {cap acts:List V}:jG Γ A W b s d (.clo (.n f) cap) acts J = Jo Γ A W b s d f (acts++cap) J:=propext Iff.rfl
@[go_sem] theorem u19 {x:AO} {g:Nat} {want q:Bool}:aiB Γ A W b s x g want (.sc (.bool q)) J = awB q want (acE Γ A W b (s.put (some g) (.bool want)) ⟨x.d,x.op,none⟩ J) (J ((s.put (some g) (.bool !want)).put x.d V.und)):=propext Iff.rfl
@[go_sem] theorem u20 {x:AO} {g:Nat} {want:Bool}:aiB Γ A W b s x g want (.tup []) J = J (s.put x.d V.und):=propext Iff.rfl
@[go_sem] theorem u21:awR A W b s d J .no = False:=propext Iff.rfl
@[go_sem] theorem u22 {e:E}:awR A W b s d J (.ret e) = (okW W b e.os∧J (s.eff d e)):=propext Iff.rfl
@[go_sem] theorem u23 {p:Prop} {m:AM E}:awR A W b s d J (.asrt p m) = (p∧awR A W b s d J m):=propext Iff.rfl
@[go_sem] theorem u24 {a:Nat} {k:Ob→AM E}:awR A W b s d J (.rd a k) = yv A W b s d J k (Yl A s.o a):=propext ay5
@[go_sem] theorem u25 {k:Ob→AM E} {ob:Ob}:yv A W b s d J k (some ob) = awR A W b s d J (k ob):=propext Iff.rfl
@[go_sem] theorem u26 {A:Nat→Bool} {o:Nat→Option Ob} {a:Nat}:Yl A o a = if A a = true then o a else none:=rfl
@[go_sem] theorem u27 {W:Nat→Bool} {b:Nat}:okW W b [] = True:=propext axy
@[go_sem] theorem u28 {W:Nat→Bool} {b:Nat} {q:Nat×Ob} {r:List (Nat×Ob)}:okW W b (q :: r) = ((W q.1 || (decide (b≤q.1) && decide (q.1 < b + KK))) = true∧okW W b r):=propext avG
@[go_sem] theorem u29 {X:Bool} {acl:List Nat} {fz:Nat→Bool} {b0 a:Nat}:rA X acl fz b0 a = ((decide (a < b0) && (X || fz a)) || acl.any fun i=>decide (b0 + i * KK≤a) && decide (a < b0 + i * KK + KK)):=rfl
@[go_sem] theorem u30 {X:Bool} {acl:List Nat} {fz:Nat→Bool} {b0 a:Nat}:rW X acl fz b0 a = (X && ((decide (a < b0) && !fz a) || acl.any fun i=>decide (b0 + i * KK≤a) && decide (a < b0 + i * KK + KK))):=rfl
@[go_sem] theorem u31 {s:St} {n:Nat}:s.wn n = { t:=s.t,o:=s.o,n:=n }:=rfl
@[go_sem] theorem u32 {ks:List Nat} {s:St}:s.keep ks = { t:=xb (ks.map fun k=>(k,s.t k)),o:=s.o,n:=s.n }:=rfl
@[go_sem] theorem u33 {α:Type} {f:Nat→α} {a:Nat} {v:α} {i:Nat}:upd f a v i = if i = a then v else f i:=rfl
@[go_sem] theorem u34 {k:Nat} {v:V} {r:List (Nat×V)} {i:Nat}:xb ((k,v) :: r) i = if i = k then v else xb r i:=rfl
@[go_sem] theorem u35 {i:Nat}:xb [] i = .top:=rfl
@[go_sem] theorem u36 {k:Nat} {v:Ob} {r:List (Nat×Ob)} {i:Nat}:afU ((k,v) :: r) i = if i = k then some v else afU r i:=rfl
@[go_sem] theorem u37 {i:Nat}:afU [] i = none:=rfl
@[go_sem] theorem u38 {args:List V} {ins:List Ob}:Wf args ins = { t:=fun i=>(args[i]?).getD .top,o:=fun k=>ins[k]?,n:=ins.length }:=rfl
@[go_sem] theorem u39 {ts:List (Nat×V)} {os:List (Nat×Ob)} {n:Nat}:Y1 ts os n = { t:=xb ts,o:=afU os,n:=n }:=rfl
@[go_sem] theorem u40 {α:Type}:([]:List α).length = 0:=rfl
@[go_sem] theorem u41 {α:Type} {a:α} {l:List α}:(a :: l).length = l.length + 1:=rfl
@[go_sem] theorem u42 {α:Type} {a:α} {l:List α}:(a :: l)[0]? = some a:=rfl
@[go_sem] theorem u43 {α:Type} {a:α} {l:List α} {i:Nat}:(a :: l)[i + 1]? = l[i]?:=rfl
@[go_sem] theorem u44 {α:Type} {a b:α}:(some a).getD b = a:=rfl
@[go_sem] theorem u45 {α:Type} {b:α}:(none:Option α).getD b = b:=rfl
@[go_sem] theorem u46 {α β:Type} {f:α→β}:(none:Option α).map f = none:=rfl
@[go_sem] theorem u47 {α β:Type} {f:α→β} {a:α}:(some a).map f = some (f a):=rfl
@[go_sem] theorem u48 {α β:Type} {f:α→β}:([]:List α).map f = []:=rfl
@[go_sem] theorem u49 {α β:Type} {f:α→β} {a:α} {l:List α}:(a :: l).map f = f a :: l.map f:=rfl
@[go_sem] theorem u50 {α:Type} {l:List α}:[]++l = l:=rfl
@[go_sem] theorem u51 {α:Type} {a:α} {l r:List α}:(a :: l)++r = a :: (l++r):=rfl
@[go_sem] theorem u52 {α:Type} {l:List α}:l.take 0 = []:=rfl
@[go_sem] theorem u53 {α:Type} {a:α} {l:List α} {n:Nat}:(a :: l).take (n + 1) = a :: l.take n:=rfl
@[go_sem] theorem u54 {α:Type} {l:List α}:l.drop 0 = l:=rfl
@[go_sem] theorem u55 {α:Type} {a:α} {l:List α} {n:Nat}:(a :: l).drop (n + 1) = l.drop n:=rfl
@[go_sem] theorem u56 {α:Type} {p:α→Bool}:([]:List α).any p = false:=rfl
@[go_sem] theorem u57 {α:Type} {p:α→Bool} {a:α} {l:List α}:(a :: l).any p = (p a || l.any p):=rfl
@[go_sem] theorem u58 {α β:Type} {f:β→α→β} {b:β}:([]:List α).foldl f b = b:=rfl
@[go_sem] theorem u59 {α β:Type} {f:β→α→β} {b:β} {a:α} {l:List α}:(a :: l).foldl f b = l.foldl f (f b a):=rfl
@[go_sem] theorem u60 {α:Type} {a:α}:List.replicate 0 a = []:=rfl
@[go_sem] theorem u61 {α:Type} {n:Nat} {a:α}:List.replicate (n + 1) a = a :: List.replicate n a:=rfl
@[go_sem] theorem u62 {α:Type} {a b:α} {l:List α}:(a :: l).set 0 b = b :: l:=rfl
@[go_sem] theorem u63 {α:Type} {a b:α} {l:List α} {n:Nat}:(a :: l).set (n + 1) b = a :: l.set n b:=rfl
@[go_sem] theorem u64 {n:Nat}:n + 0 = n:=rfl
@[go_sem] theorem u65 {n:Nat}:(n:Int).toNat = n:=rfl
@[go_sem] theorem u66 {α:Type} {i:Nat}:([]:List α)[i]? = none:=by simp
@[go_sem] theorem u67 {α:Type} {l:List α}:l++[] = l:=by simp
@[go_sem] theorem u68 {α:Type} {n:Nat}:([]:List α).take n = []:=by simp
@[go_sem] theorem u69 {α:Type} {n:Nat}:([]:List α).drop n = []:=by simp
@[go_sem] theorem u70 {n:Nat}:0 + n = n:=by simp
@[go_sem] theorem u71 {n:Nat}:(0≤(n:Int)) = True:=by simp
@[go_sem] theorem u72 {n:Nat}:(n≤n) = True:=by simp
@[go_sem] theorem u73 {α:Type} {p:α→Prop} {a:α} {l:List α}:(∀ x∈a :: l,p x) = (p a∧∀ x∈l,p x):=by simp
@[go_sem] theorem u74 {α:Type} {p:α→Prop}:(∀ x∈([]:List α),p x) = True:=by simp
@[go_sem] theorem u75 {α:Type} {a:α}:(a∈([]:List α)) = False:=by simp
@[go_sem] theorem u76 {p:Prop}:(True∧p) = p:=by simp
@[go_sem] theorem u77 {p:Prop}:(p∧True) = p:=by simp
@[go_sem] theorem u78 {p:Prop}:(False∧p) = False:=by simp
@[go_sem] theorem u79 {p:Prop}:(True∨p) = True:=by simp
@[go_sem] theorem u80 {p:Prop}:(p∨True) = True:=by simp
@[go_sem] theorem u81 {p:Prop}:(False∨p) = p:=by simp
@[go_sem] theorem u82 {p:Prop}:(p∨False) = p:=by simp
@[go_sem] theorem u83:(¬ True) = False:=by simp
@[go_sem] theorem u84:(¬ False) = True:=by simp
@[go_sem] theorem u85 {p:Prop}:(False→p) = True:=by simp
@[go_sem] theorem u86 {p:Prop}:(True→p) = p:=by simp
@[go_sem] theorem u87 {α:Type}:(α→True) = True:=by simp
@[go_sem] theorem u88 {p:Prop}:(p→True) = True:=by simp
@[go_sem] theorem u89:(false = true) = False:=by simp
@[go_sem] theorem u90:(true = false) = False:=by simp
@[go_sem] theorem u91 {α:Type} {a b:α}:(some a = some b) = (a = b):=by simp
@[go_sem] theorem u92 {α:Type} {a:α}:(a = a) = True:=by simp
@[go_sem] theorem u93:decide True = true:=by simp
@[go_sem] theorem u94:decide False = false:=by simp
@[go_sem] theorem u95:(!true) = false:=rfl
@[go_sem] theorem u96:(!false) = true:=rfl
@[go_sem] theorem u97 {b:Bool}:(true && b) = b:=rfl
@[go_sem] theorem u98 {b:Bool}:(false && b) = false:=rfl
@[go_sem] theorem u99 {b:Bool}:(true || b) = true:=rfl
@[go_sem] theorem aB8 {b:Bool}:(false || b) = b:=rfl
@[go_sem] theorem aB7 {α:Type} {a b:α}:(a≠b) = ¬ (a = b):=rfl
@[go_sem] theorem aB6 {b:Bool}:(b && true) = b:=by simp
@[go_sem] theorem aB5 {b:Bool}:(b && false) = false:=by simp
@[go_sem] theorem aB4 {b:Bool}:(b || true) = true:=by simp
@[go_sem] theorem aB3 {b:Bool}:(b || false) = b:=by simp
@[go_sem] theorem aB2 {v:V}:conv o br B v .top = True:=propext (by apply ayR)
@[go_sem] theorem aB1 {v u:Value}:conv o br B (.sc v) (.sc u) = (v = u):=propext (by apply azK)
@[go_sem] theorem aB0 {s:Nat} {ys:List V}:conv o br B (.sc (.slice none 0 0)) (.sl s ys) = (ys = []):=propext (by apply ayT)
@[go_sem] theorem aBZ {s s':Nat} {xs ys:List V}:conv o br B (.sl s xs) (.sl s' ys) = (s = s'∧xs = ys):=propext (by apply azJ)
@[go_sem] theorem aBY {a off len s:Nat} {ys:List V}:conv o br B (.hd a off len) (.sl s ys) = (okB B a∧a ∉ br∧hdC o br B off len s ys (o a)):=propext (by apply ayU)
@[go_sem] theorem aBX {a off off':Nat} {es:List V}:conv o br B (.ptr a off) (.ro es off') = (okB B a∧a ∉ br∧off' = off∧Qh es∧∃ wr cs,o a = some (.box wr cs)∧Jn o br B cs es):=propext (by apply ayS)
@[go_sem] theorem aBW {off off':Nat} {cs es:List V}:conv o br B (.ro cs off) (.ro es off') = (cs = es∧off' = off):=propext (by apply azL)
@[go_sem] theorem aBV {cs es:List V}:conv o br B (.agg cs) (.agg es) = Jn o br B cs es:=propext (by apply ayW)
@[go_sem] theorem aBU {cs es:List V}:conv o br B (.tup cs) (.tup es) = Jn o br B cs es:=propext (by apply ayQ)
@[go_sem] theorem aBT {f g:FK} {cs es:List V}:conv o br B (.clo f cs) (.clo g es) = (f = g∧Jn o br B cs es):=propext (by apply ayV)
@[go_sem] theorem aBS :conv o br B .nn .nn = True:=propext (by apply azM)
@[go_sem] theorem aBR:Jn o br B [] [] = True:=propext (axT _ _ _)
@[go_sem] theorem aBQ {v e:V} {r r':List V}:Jn o br B (v :: r) (e :: r') = (conv o br B v e∧Jn o br B r r'):=propext (awg _ _ _ _ _ _ _)
@[go_sem] theorem aBP {a:Nat}:okB none a = True:=propext (avI _)
@[go_sem] theorem aBO {l:List Nat} {a:Nat}:okB (some l) a = (a∈l):=propext (avH _ _)
@[go_sem] theorem aBN {wr0:Bool} {s0 s:Nat} {xs0:List V} {p:List V→Prop}:(∃ wr xs,some (Ob.buf wr0 s0 xs0) = some (Ob.buf wr s xs)∧p xs) = (s0 = s∧p xs0):=propext asA
@[go_sem] theorem aBM {wr0:Bool} {s0 s:Nat} {xs0:List V} {p:List V→Prop}:(∃ wr xs,Ob.buf wr0 s0 xs0 = Ob.buf wr s xs∧p xs) = (s0 = s∧p xs0):=propext aqh
@[go_sem] theorem aBL {wr0:Bool} {cs0:List V} {p:List V→Prop}:(∃ wr cs,some (Ob.box wr0 cs0) = some (Ob.box wr cs)∧p cs) = p cs0:=propext asB
@[go_sem] theorem aBK {wr0:Bool} {cs0:List V} {p:List V→Prop}:(∃ wr cs,Ob.box wr0 cs0 = Ob.box wr cs∧p cs) = p cs0:=propext aqi
@[go_sem] theorem aBJ {wr0:Bool} {s0:Nat} {xs0:List V}:(∃ wr s xs,some (Ob.buf wr0 s0 xs0) = some (Ob.buf wr s xs)) = True:=eq_true ⟨wr0,s0,xs0,rfl⟩
@[go_sem] theorem aBI {wr0:Bool} {s0:Nat} {xs0:List V}:(∃ wr s xs,Ob.buf wr0 s0 xs0 = Ob.buf wr s xs) = True:=eq_true ⟨wr0,s0,xs0,rfl⟩
@[go_sem] theorem aAc {k:IntKind} {a b:Int}:(Value.int k a = Value.int k b) = (a = b):=by simp
@[go_sem] theorem aBH {a b:Bool}:(Value.bool a = Value.bool b) = (a = b):=by simp
@[go_sem] theorem aBG {l:List UInt8}:(⟨l.toArray⟩:ByteArray).size = l.length:=aqM l
@[go_sem] theorem aBF {l:List UInt8}:l.toArray.toList = l:=by simp
@[go_sem] theorem aBE {l:List UInt8} {a b:Nat}:(⟨l.toArray⟩:ByteArray).extract a b = ⟨((l.drop a).take (b - a)).toArray⟩:=axc l a b
@[go_sem] theorem aBD {a b:List UInt8}:aiA .add ⟨a.toArray⟩ ⟨b.toArray⟩ = .asrt (a.length + b.length < 2 ^ 62) (.ret { v:=V.str (a++b) }):=ax8 a b
@[go_sem] theorem aBC {a b:List UInt8}:aiA .eql ⟨a.toArray⟩ ⟨b.toArray⟩ = .ret { v:=.bool (a == b) }:=ax7 a b
@[go_sem] theorem aBB {a b:List UInt8}:aiA .neq ⟨a.toArray⟩ ⟨b.toArray⟩ = .ret { v:=.bool (!(a == b)) }:=ax2 a b
@[go_sem] theorem aBA {a b:List UInt8}:aiA .lss ⟨a.toArray⟩ ⟨b.toArray⟩ = .ret { v:=.bool (Op.bytesLess a b) }:=ax3 a b
@[go_sem] theorem aBz {a b:List UInt8}:aiA .leq ⟨a.toArray⟩ ⟨b.toArray⟩ = .ret { v:=.bool (Op.bytesLess a b || a == b) }:=ax4 a b
@[go_sem] theorem aBy {a b:List UInt8}:aiA .gtr ⟨a.toArray⟩ ⟨b.toArray⟩ = .ret { v:=.bool (!(Op.bytesLess a b || a == b)) }:=ax5 a b
@[go_sem] theorem aBx {a b:List UInt8}:aiA .geq ⟨a.toArray⟩ ⟨b.toArray⟩ = .ret { v:=.bool (!(Op.bytesLess a b)) }:=ax6 a b
@[go_sem] theorem aBw {a b:List UInt8}:(Value.string ⟨a.toArray⟩ = Value.string ⟨b.toArray⟩) = (a = b):=by simp
@[go_sem] theorem aBv {v:Value}:V.shut o (.sc v) = .sc v:=by simp only [V.shut]
@[go_sem] theorem aBu :V.shut o .nn = .nn:=by simp only [V.shut]
@[go_sem] theorem aBt :V.shut o .top = .top:=by simp only [V.shut]
@[go_sem] theorem aBs {k:Nat} {xs:List V}:V.shut o (.sl k xs) = .sl k xs:=by simp only [V.shut]
@[go_sem] theorem aBr {cs:List V} {k:Nat}:V.shut o (.ro cs k) = .ro cs k:=by simp only [V.shut]
@[go_sem] theorem aBq {cs:List V}:V.shut o (.agg cs) = .agg (Y2 o cs):=by simp only [V.shut]
@[go_sem] theorem aBp {cs:List V}:V.shut o (.tup cs) = .tup (Y2 o cs):=by simp only [V.shut]
@[go_sem] theorem aBo {f:FK} {cs:List V}:V.shut o (.clo f cs) = .clo f (Y2 o cs):=by simp only [V.shut]
@[go_sem] theorem aBn {a off len:Nat}:V.shut o (.hd a off len) = azi o off len (o a):=by simp only [V.shut,azi]<;>rfl
@[go_sem] theorem aBm {a off:Nat}:V.shut o (.ptr a off) = axg off (o a):=by simp only [V.shut,axg]<;>rfl
@[go_sem] theorem aBl {off len s:Nat} {wr:Bool} {xs:List V}:azi o off len (some (.buf wr s xs)) = .sl s ((xs.drop off).take len):=rfl
@[go_sem] theorem aBk {off:Nat} {wr:Bool} {cs:List V}:axg off (some (.box wr cs)) = .ro cs off:=rfl
@[go_sem] theorem aBj:Y2 o [] = []:=by simp only [Y2]
@[go_sem] theorem aBi {v:V} {cs:List V}:Y2 o (v :: cs) = v.shut o :: Y2 o cs:=by simp only [Y2]
@[go_sem] theorem aBh {v:Value}:V.shutOk o B (.sc v) = True:=by simp only [V.shutOk]
@[go_sem] theorem aBg :V.shutOk o B .nn = True:=by simp only [V.shutOk]
@[go_sem] theorem aBf :V.shutOk o B .top = True:=by simp only [V.shutOk]
@[go_sem] theorem aBe {k:Nat} {xs:List V}:V.shutOk o B (.sl k xs) = True:=by simp only [V.shutOk]
@[go_sem] theorem aBd {cs:List V} {k:Nat}:V.shutOk o B (.ro cs k) = True:=by simp only [V.shutOk]
@[go_sem] theorem aBc {a off len:Nat}:V.shutOk o B (.hd a off len) = (okB B a∧ayj o B off len (o a)):=by simp only [V.shutOk]
@[go_sem] theorem aBb {a off:Nat}:V.shutOk o B (.ptr a off) = (okB B a∧∃ wr cs,o a = some (.box wr cs)∧Qh cs):=by simp only [V.shutOk]
@[go_sem] theorem aBa {cs:List V}:V.shutOk o B (.agg cs) = QL o B cs:=by simp only [V.shutOk]
@[go_sem] theorem aA9 {cs:List V}:V.shutOk o B (.tup cs) = QL o B cs:=by simp only [V.shutOk]
@[go_sem] theorem aA8 {f:FK} {cs:List V}:V.shutOk o B (.clo f cs) = QL o B cs:=by simp only [V.shutOk]
@[go_sem] theorem aA7:QL o B [] = True:=by simp only [QL]
@[go_sem] theorem aA6 {v:V} {cs:List V}:QL o B (v :: cs) = (v.shutOk o B∧QL o B cs):=by simp only [QL]
@[go_sem] theorem aA5 {v:Value}:V.closed (.sc v) = True:=by simp only [V.closed]
@[go_sem] theorem aA4 :V.closed .nn = True:=by simp only [V.closed]
@[go_sem] theorem aA3 :V.closed .top = True:=by simp only [V.closed]
@[go_sem] theorem aA2 {k:Nat} {xs:List V}:V.closed (.sl k xs) = True:=by simp only [V.closed]
@[go_sem] theorem aA1 {cs:List V} {k:Nat}:V.closed (.ro cs k) = True:=by simp only [V.closed]
@[go_sem] theorem aA0 {cs:List V}:V.closed (.agg cs) = Qh cs:=by simp only [V.closed]
@[go_sem] theorem aAZ {cs:List V}:V.closed (.tup cs) = Qh cs:=by simp only [V.closed]
@[go_sem] theorem aAY {f:FK} {cs:List V}:V.closed (.clo f cs) = Qh cs:=by simp only [V.closed]
@[go_sem] theorem aAX:Qh [] = True:=by simp only [Qh]
@[go_sem] theorem aAW {v:V} {cs:List V}:Qh (v :: cs) = (v.closed∧Qh cs):=by simp only [Qh]
@[go_sem] theorem aAV {v:Value}:V.cells (.sc v) = [.sc v]:=by simp only [V.cells]
@[go_sem] theorem aAU {k:Nat} {xs:List V}:V.cells (.sl k xs) = [.sl k xs]:=by simp only [V.cells]
@[go_sem] theorem aAT {a off len:Nat}:V.cells (.hd a off len) = [.hd a off len]:=by simp only [V.cells]
@[go_sem] theorem aAS {a off:Nat}:V.cells (.ptr a off) = [.ptr a off]:=by simp only [V.cells]
@[go_sem] theorem aAR {cs:List V} {k:Nat}:V.cells (.ro cs k) = [.ro cs k]:=by simp only [V.cells]
@[go_sem] theorem aAQ {cs:List V}:V.cells (.agg cs) = cs:=by simp only [V.cells]
@[go_sem] theorem aAP {f:FK} {cs:List V}:V.cells (.clo f cs) = [.clo f cs]:=by simp only [V.cells]
@[go_sem] theorem aAO :V.cells .nn = [.nn]:=by simp only [V.cells]
@[go_sem] theorem aAN:Yf [] [] [] = some true:=by simp only [Yf]
@[go_sem] theorem aAM {ks:List Nat} {k k':IntKind} {a b:Int} {xs ys:List V}:Yf (0 :: ks) (.sc (.int k a) :: xs) (.sc (.int k' b) :: ys) = if k = k' then (Yf ks xs ys).map ((a == b) && ·) else none:=by simp only [Yf]
@[go_sem] theorem aAL {ks:List Nat} {a b:List UInt8} {xs ys:List V}:Yf (1 :: ks) (.sc (.string ⟨a.toArray⟩) :: xs) (.sc (.string ⟨b.toArray⟩) :: ys) = (Yf ks xs ys).map ((a == b) && ·):=by simp only [Yf];congr;funext t;congr 1;rw [Zi];simp;show (a.toArray == b.toArray) = true↔a = b;simp
@[go_sem] theorem aAK {ks:List Nat} {a b:Bool} {xs ys:List V}:Yf (2 :: ks) (.sc (.bool a) :: xs) (.sc (.bool b) :: ys) = (Yf ks xs ys).map ((a == b) && ·):=by simp only [Yf]
@[go_sem] theorem aAJ {l:List UInt8}:(l == l) = true:=by simp
@[go_sem] theorem aAI {n:Int}:(n == n) = true:=by simp
@[go_sem] theorem aAH {k:IntKind}:(k == k) = true:=by cases k<;>rfl
@[go_sem] theorem aAG {f:FuncId} {cap acts:List V}:ajc Γ b r s d (.clo (.m f) cap) acts K = awC Γ b r s d f (cap++acts) K:=propext Iff.rfl
@[go_sem] theorem aAF {f:FuncId} {cap acts:List V}:jG Γ A W b s d (.clo (.m f) cap) acts J = Jo Γ A W b s d f (cap++acts) J:=propext Iff.rfl
@[go_sem] theorem aAE {off len s:Nat} {ys:List V} {wr:Bool} {s1:Nat} {xs:List V}:hdC o br B off len s ys (some (.buf wr s1 xs)) = (s1 = s∧ys = (xs.drop off).take len):=rfl
@[go_sem] theorem aAD {off len s:Nat} {ys:List V} {wr:Bool} {s1:Nat} {xs:List V}:hdC o br B off len s ys (some (.obuf wr s1 xs)) = (s1 = s∧Jn o br B ((xs.drop off).take len) ys∧ntL ys∧Qh ys):=rfl
@[go_sem] theorem aAC {off len s:Nat} {wr:Bool} {xs:List V}:azi o off len (some (.obuf wr s xs)) = .sl s (ab2 o ((xs.drop off).take len)):=rfl
@[go_sem] theorem aAB {off len s:Nat} {wr:Bool} {xs:List V}:ayj o B off len (some (.buf wr s xs)) = True:=rfl
@[go_sem] theorem aAA {off len s:Nat} {wr:Bool} {xs:List V}:ayj o B off len (some (.obuf wr s xs)) = (xY o B ((xs.drop off).take len)∧ntL (ab2 o ((xs.drop off).take len))):=rfl
@[go_sem] theorem aAz {l:List Nat} {k:Nat→AM E}:awS Γ b r s d K (.anyN l k) = (l≠[]∧∀ i∈l,awS Γ b r s d K (k i)):=propext Iff.rfl
@[go_sem] theorem aAy {ag:Bool} {ks:List Nat} {k:V} {i:Nat}:wu ag ks k [] i = some none:=rfl
@[go_sem] theorem aAx {ks:List Nat} {u v:Value}:xh false ks (.sc u) (.sc v) = Yf ks [.sc u] [.sc v]:=rfl
@[go_sem] theorem aAw {ks:List Nat} {u v:List V}:xh true ks (.agg u) (.agg v) = Yf ks u v:=rfl
@[go_sem] theorem aAv {a:Nat}:V.cells (.mp a) = [.mp a]:=by simp only [V.cells]
@[go_sem] theorem aAu {a k:Nat}:conv o br B (.mp a) (.mp k) = (br[k]? = some a):=by simp only [conv]
end
attribute [go_sem] KK sem AM.int AM.str AM.slice AM.sliceK ax1 AM.cellsAt awk St.eff St.put St.ev ad0 V.ofV ZC.v abU ayh splice amQ V.mk ada V.small xi afy xZ aoh Int.cast_ofNat_Int V.und
end Av
end
section
namespace Av
open Go
theorem aqa {α:Type} {p:α→Prop} {a:α} {l:List α}:(∀ x∈a :: l,p x)↔(p a∧∀ x∈l,p x):=by simp
theorem asx {α:Type} {p:α→Prop}:(∀ x∈([]:List α),p x)↔True:=by simp
theorem zsd {p:Prop} (h:p:=by first|assumption|omega|(simp;done)):p:=h
theorem zlo {p:Prop} (h:p:=by simp only [zp,List.length_cons,List.length_nil,zd,Nat.reducePow,Nat.reduceAdd];omega):p:=h
theorem zms {α:Type} {a:α}:a∈[a]:=List.mem_singleton_self _
theorem zsk {p q:Prop} (k:q) (h:q→p:=by first|exact anm|exact awo):p:=h k
theorem zsp {p q:Prop} (k:q) (h:q→p:=by first|exact ann|exact awm|exact auW|exact aya|exact awt):p:=h k
theorem zsc {p a b:Prop} (k:a) (l:b) (h:a→b→p:=by first|exact fun k l=>anp ⟨_,rfl,k,l⟩|exact ayc|exact ayd):p:=h k l
theorem znh {p:Prop} (h:p:=by first|(cases hc;done)|((try simp only [znz] at hc);exact znf)|fail):p:=h
theorem zan {a b:Prop} (x:a) (y:b):a∧b:=⟨x,y⟩
section
variable {g q:Prop} {L:List Nat} {ot:OT} {p:OP} {ops:List AO} {ahead:List (List Nat)}
end
theorem zsq {p:Prop} (h:p:=by first|exact zlo|omega|exact zms):p:=h
theorem znf {p:Prop} (h:p:=by first|(exfalso;simp only [zd] at hc;omega)|(exfalso;omega)):p:=h
theorem znz:(∀ {p:Prop} [Decidable p],(decide p = true) = p)∧(∀ {p:Prop} [Decidable p],(decide p = false) = ¬ p)∧(∀ {α:Type} [BEq α] [LawfulBEq α] {a b:α},((a == b) = true) = (a = b)) ∧
  (∀ {α:Type} [BEq α] [LawfulBEq α] {a b:α},((a == b) = false) = ¬ (a = b))∧(∀ {α:Type} {a b:α},(a≠b) = ¬ (a = b))∧(∀ {b:Bool},((!b) = true) = (b = false))∧(∀ {b:Bool},((!b) = false) = (b = true)) :=
 ⟨propext decide_eq_true_iff,propext zH,propext ki,propext kM,rfl,Zh _,Bool.not_eq_false' _⟩
theorem zwl:(∀ {p:Prop},(p∧True) = p)∧(∀ {p:Prop},(True∧p) = p)∧(∀ {α:Type},(α→True) = True)∧(∀ {p:Prop},(p→True) = True)∧(∀ {α:Type} {a b:α},(some a = some b) = (a = b))∧(∀ {α:Type} {p:α→Prop} {a:α},(∃ b,a = b∧p b) = p a) ∧
  (∀ (σ:Nat→Nat) (cs:List V),Qh cs→K3 σ cs = cs)∧(∀ (σ:Nat→Nat) (v:V),v.closed→v.ren σ = v) :=
 ⟨and_true _,true_and _,implies_true _,implies_true _,zf _ _,propext exists_eq_left',J7,Wh⟩
theorem zcc {p:Prop} (h:p:=by first|((repeat' (first|rfl|apply za|omega|exact fun h=>h|exact Exists.intro _ rfl));done)|fail):p:=h
theorem zwa {p:Prop} (h:p:=by first|(simp only [go_sem,zwl,Nat.reduceAdd,Nat.reduceMul,Nat.reduceEqDiff,Nat.reduceLT,Int.reduceToNat,reduceIte,reduceCtorEq];(repeat' (first|rfl|apply za|omega|exact fun h=>h|exact Exists.intro _ rfl));done)|fail):p:=h
theorem zwg {m n:Nat} {s:St} (tau:List (Nat×Nat)) {ts:List (Nat×V)} {os:List (Nat×Ob)}
  (ht:∀ p∈ts,s.t p.1 = p.2.ren (Qi tau)∧p.2.lt n:=by exact zwa)
  (ho:∀ p∈os,p.1 < n∧∃ x,s.o (Qi tau p.1) = some x∧x.weak (Qi tau) n p.2:=by exact zwa)
  (hn:(os.map fun p=>Qi tau p.1).Nodup:=by first|(simp;done)|(simp [Qi];done)|fail) (hf:∀ p∈tau,m≤p.1:=by first|(simp;done)|(simp;omega)|fail) (hm:m≤n:=by omega):arU m (Qi tau) s (Y1 ts os n):=Qv tau ht ho hn hf hm
theorem zcd {p:Prop} (h:p:=by first|(simp only [V.closed,Qh,and_self,and_true,true_and];done)|fail):p:=h
theorem zr {p:Prop} (h:p:=by first|(refine Qr _ rfl ?_;simp only [go_sem,Nat.reduceEqDiff,Nat.reduceAdd,reduceIte,reduceCtorEq];done)|fail):p:=h
theorem zrd {p:Prop} (h:p:=by first|exact rfl|decide):p:=h
theorem zro {p:Prop} (h:p:=by first|exact rfl|omega|(simp;done)|fail):p:=h
structure EvB (Γ:Env) (f:FuncId) (args:List V) (res:V) (B:Option (List Nat)):Prop where
 ev:Ev Γ f args [] res []
 cl:res.closed
 sh:(B = none∧res.noSl)∨B = some []
theorem EvN.b {Γ:Env} {f:FuncId} {args:List V} {res:V} (h:EvN Γ f args res):EvB Γ f args res none:=⟨h.1,h.2.1,.inl ⟨rfl,h.2.2⟩⟩
theorem EvC.b {Γ:Env} {f:FuncId} {args:List V} {res:V} (h:EvC Γ f args res):EvB Γ f args res (some []):=⟨h.1,h.2,.inr rfl⟩
section
variable {Γ:Env} {A W:Nat→Bool} {b:Nat} {r:List AO} {s:St} {d:Option Nat} {f:FuncId} {acts:List V} {res:V} {J K:St→Prop} {B:Option (List Nat)}
theorem az2 (h:EvB Γ f (Y2 s.o acts) res B) (hc:QL s.o B acts) (hk:U3 Γ (b + KK) r { t:=(s.put d res).t,o:=s.o,n:=s.n } K):awC Γ b r s d f acts K:=by
 obtain ⟨h1,h2,⟨rfl,h3⟩|rfl⟩:=h
 ·exact azY hc ⟨h1,h2,h3⟩ hk
 ·exact az1 hc ⟨h1,h2⟩ hk
theorem azb (h:EvB Γ f (Y2 (Yl A s.o) acts) res B) (hc:QL (Yl A s.o) B acts) (hk:J { t:=(s.put d res).t,o:=s.o,n:=s.n }):Jo Γ A W b s d f acts J:=by
 obtain ⟨h1,h2,⟨rfl,h3⟩|rfl⟩:=h
 ·exact ay8 hc ⟨h1,h2,h3⟩ hk
 ·exact aza hc ⟨h1,h2⟩ hk
def akO (Γ:Env) (b:Nat) (r:List AO) (s:St) (d:Option Nat) (f:FuncId) (acts args:List V) (okf:Option (List Nat)→Prop) (K:St→Prop):Prop :=
 args = Y2 s.o acts→okf = (fun B=>QL s.o B acts)→awC Γ b r s d f acts K
def ahB (Γ:Env) (A W:Nat→Bool) (b:Nat) (s:St) (d:Option Nat) (f:FuncId) (acts args:List V) (okf:Option (List Nat)→Prop) (J:St→Prop):Prop :=
 args = Y2 (Yl A s.o) acts→okf = (fun B=>QL (Yl A s.o) B acts)→Jo Γ A W b s d f acts J
@[go_sem] theorem aAo:awC Γ b r s d f acts K = akO Γ b r s d f acts (Y2 s.o acts) (fun B=>QL s.o B acts) K:=propext ⟨fun h _ _=>h,fun h=>h rfl rfl⟩
@[go_sem] theorem az7:Jo Γ A W b s d f acts J = ahB Γ A W b s d f acts (Y2 (Yl A s.o) acts) (fun B=>QL (Yl A s.o) B acts) J:=propext ⟨fun h _ _=>h,fun h=>h rfl rfl⟩
theorem QR {args:List V} {okf:Option (List Nat)→Prop} (h:EvB Γ f args res B) (hc:okf B) (hk:U3 Γ (b + KK) r { t:=(s.put d res).t,o:=s.o,n:=s.n } K):akO Γ b r s d f acts args okf K:=by
 rintro rfl rfl;exact az2 h hc hk
theorem QG {args:List V} {okf:Option (List Nat)→Prop} (h:EvB Γ f args res B) (hc:okf B) (hk:J { t:=(s.put d res).t,o:=s.o,n:=s.n }):ahB Γ A W b s d f acts args okf J:=by
 rintro rfl rfl;exact azb h hc hk
end
mutual
theorem aqu (o:Nat→Option Ob):∀ v:V,v.closed→v.shut o = v
 | .top,_=>by simp only [V.shut]
 | .sc _,_=>by simp only [V.shut]
 | .nn,_=>by simp only [V.shut]
 | .sl _ _,_=>by simp only [V.shut]
 | .hd _ _ _,h=>h.elim
 | .ptr _ _,h=>h.elim
 | .ept _ _ _,h=>h.elim
 | .mp _,h=>h.elim
 | .ro _ _,_=>by simp only [V.shut]
 | .agg cs,h=>by simp only [V.shut];rw [Wo o cs h]
 | .tup cs,h=>by simp only [V.shut];rw [Wo o cs h]
 | .clo _ cs,h=>by simp only [V.shut];rw [Wo o cs h]
theorem Wo (o:Nat→Option Ob):∀ cs:List V,Qh cs→Y2 o cs = cs
 | [],_=>by simp only [Y2]
 | v :: r,h=>by simp only [Y2];rw [aqu o v h.1,Wo o r h.2]
end
mutual
theorem anj (o:Nat→Option Ob) (B:Option (List Nat)):∀ v:V,v.closed→v.shutOk o B
 | .top,_=>by simp only [V.shutOk]
 | .sc _,_=>by simp only [V.shutOk]
 | .nn,_=>by simp only [V.shutOk]
 | .sl _ _,_=>by simp only [V.shutOk]
 | .hd _ _ _,h=>h.elim
 | .ptr _ _,h=>h.elim
 | .ept _ _ _,h=>h.elim
 | .mp _,h=>h.elim
 | .ro _ _,_=>by simp only [V.shutOk]
 | .agg cs,h=>by simp only [V.shutOk];exact Xi o B cs h
 | .tup cs,h=>by simp only [V.shutOk];exact Xi o B cs h
 | .clo _ cs,h=>by simp only [V.shutOk];exact Xi o B cs h
theorem Xi (o:Nat→Option Ob) (B:Option (List Nat)):∀ cs:List V,Qh cs→QL o B cs
 | [],_=>by simp only [QL]
 | v :: r,h=>by simp only [QL];exact ⟨anj o B v h.1,Xi o B r h.2⟩
end
@[go_sem] def mv (d x:Nat):AO:=⟨some d,.mov (.t x),none⟩
@[go_sem] def mc (d:Nat) (v:V):AO:=⟨some d,.mov (.c v),none⟩
@[go_sem] def mg (d x g:Nat) (q:Bool):AO:=⟨some d,.mov (.t x),some (g,q)⟩
@[go_sem] def ld (d s x:Nat):AO:=⟨some d,.load false s (.t x),none⟩
@[go_sem] def ia (d s x i:Nat):AO:=⟨some d,.iaddr s (.t x) (.t i),none⟩
@[go_sem] def fa (d o x:Nat):AO:=⟨some d,.faddr o (.t x),none⟩
@[go_sem] def nk (d x:Nat):AO:=⟨some d,.nilck (.t x),none⟩
@[go_sem] def ex (d x i:Nat):AO:=⟨some d,.ext (.t x) i,none⟩
@[go_sem] def ln (d x:Nat):AO:=⟨some d,.lenL (.t x),none⟩
@[go_sem] def bn (d:Nat) (op:BinOp) (x y:Nat):AO:=⟨some d,.bin op (.t x) (.t y),none⟩
@[go_sem] def bc (d:Nat) (op:BinOp) (x:Nat) (v:V):AO:=⟨some d,.bin op (.t x) (.c v),none⟩
@[go_sem] def cl (d f:Nat) (ts:List Nat):AO:=⟨some d,.call f (ts.map .t),none⟩
@[go_sem] def xo (d:Nat) (op:AOp):AO:=⟨some d,op,none⟩
@[go_sem] def xg (d:Nat) (op:AOp) (g:Nat) (q:Bool):AO:=⟨some d,op,some (g,q)⟩
@[go_sem] def xs (s a x:Nat):AO:=⟨none,.store s (.t a) (.t x),none⟩
inductive ZF:Prop→Prop
 | u:ZF True
 | t (p:Prop):ZF p
structure ZW (p:Prop):Prop where
 h:p
class RG (L:List Nat) (ot:OT) (p:outParam OP) (ops:List AO) (ahead:List (List Nat)) (N:outParam Nat) (fz:outParam (Nat→Bool)):Prop where
 l:ops.length = N
 o:okR ops ahead L ot = true
 p:ad1 (ris ops ahead L) ot = p
section
variable {g q:Prop} {L:List Nat} {ot:OT} {p:OP} {ops:List AO} {ahead:List (List Nat)} {N:Nat} {fz:Nat→Bool} {C:Ctx} {nt:Nat} {s:St} {K:St→Prop} {E:Nat→St→Prop} {R:St→Prop} {ks:List Nat} {y:AC}
theorem aAa [i:RG L ot p ops ahead N fz] (h:∀ K':St→Prop,(∀ s',AWp C nt y s' K E R→K' s')→abh C.env fz s.n (fun s'=>K' ((s'.wn (s.n + N * KK)).keep ks)) p s):AWp C nt (Qb ks (VD L ot p ops ahead) y) s K E R:=awn N fz i.l i.o i.p h
theorem az9 [i:RG L ot p ops ahead N fz] (h:∀ K':St→Prop,(∀ s',K s'→K' s')→abh C.env fz s.n (fun s'=>K' (s'.wn (s.n + N * KK))) p s):AWp C nt (VD L ot p ops ahead) s K E R:=awp N fz i.l i.o i.p h
end
theorem zrg {p q:Prop} (k:q) (h:q→p:=by first|exact aAa|exact az9|fail):p:=h k
theorem zis {Γ:Env} {b:Nat} {r:List AO} {s:St} {d:Option Nat} {f:FuncId} {acts args:List V} {okf:Option (List Nat)→Prop} {K:St→Prop} (h:akO Γ b r s d f acts args okf K):akO Γ b r s d f acts args okf K:=h
theorem zir {Γ:Env} {A W:Nat→Bool} {b:Nat} {s:St} {d:Option Nat} {f:FuncId} {acts args:List V} {okf:Option (List Nat)→Prop} {J:St→Prop} (h:ahB Γ A W b s d f acts args okf J):ahB Γ A W b s d f acts args okf J:=h
theorem zsi {p:Prop} (h:p:=by first|(simp;done)|fail):p:=h
theorem zcl {p:Prop} (h:p:=by first|(simp only [V.closed,Qh,V.noSl,Ue,and_self,and_true,true_and];done)|fail):p:=h
theorem zse {p:Prop} (h:p:=by first|exact rfl|(simp;done)|omega|(simp only [zd];omega)|fail):p:=h
theorem zap {p:Prop} (h:p:=by first|(apply ih<;>exact zsd)|(apply z0<;>exact zsd)|(apply z1<;>exact zsd)|(apply z2<;>exact zsd)|(apply z3<;>exact zsd)|(apply z4<;>exact zsd)|(apply z5<;>exact zsd)|(apply z6<;>exact zsd)|(apply z7<;>exact zsd)|(apply z8<;>exact zsd)|(apply z9<;>exact zsd)|(apply z10<;>exact zsd)|(apply z11<;>exact zsd)|(apply z12<;>exact zsd)|(apply z13<;>exact zsd)|(apply z14<;>exact zsd)|(apply z15<;>exact zsd)|(apply z16<;>exact zsd)|(apply z17<;>exact zsd)|(apply z18<;>exact zsd)|(apply z19<;>exact zsd)|(apply z20<;>exact zsd)|(apply z21<;>exact zsd)|(apply z22<;>exact zsd)|(apply z23<;>exact zsd)|(apply z24<;>exact zsd)|(apply z25<;>exact zsd)|(apply z26<;>exact zsd)|(apply z27<;>exact zsd)|(apply z28<;>exact zsd)|(apply z29<;>exact zsd)|(apply z30<;>exact zsd)|(apply z31<;>exact zsd)|(apply z32<;>exact zsd)|(apply z33<;>exact zsd)|(apply z34<;>exact zsd)|(apply z35<;>exact zsd)|(apply z36<;>exact zsd)|(apply z37<;>exact zsd)|(apply z38<;>exact zsd)|(apply z39<;>exact zsd)|fail):p:=h
theorem zpc {p:Prop} (h:p:=by first|assumption|exact zap|fail):p:=h
theorem zca {Γ:Env} {f:FuncId} {args:List V} {res:V} {B:Option (List Nat)} (h:EvB Γ f args res B:=by first|assumption|(apply EvN.b;exact zap)|(apply EvC.b;exact zap)|fail):EvB Γ f args res B:=h
theorem zt {p:Prop} (h:p:=by first|exact trivial|exact fun _=>trivial|fail):p:=h
theorem zcx {p q:Prop} (h:p→q:=by (intro hc;(try simp only [znz] at hc);exact hc)):p→q:=h
theorem azp {p:Prop} (h:p:=by first|((repeat' (first|(refine zsk ?_;intro K' hK)|refine zsp ?_|exact zbr hq|(refine zrg ?_;intro K' hK)|simp (maxSteps:=1000000) only [go_sem,zx,Int.toNat_natCast,zi,Nat.reduceAdd,Nat.reduceMul,Nat.reduceEqDiff,Nat.reduceLeDiff,Nat.reduceLT,Nat.reduceSub,Int.reduceEq,Int.reduceBEq,Int.reduceLT,Int.reduceLE,Int.reduceAdd,Int.reduceToNat,reduceIte,reduceCtorEq]|simp (maxSteps:=1000000) only [go_sem,Nat.reduceAdd,Nat.reduceMul,Nat.reduceEqDiff,Nat.reduceLeDiff,Nat.reduceLT,Nat.reduceSub,Int.reduceEq,Int.reduceBEq,Int.reduceLT,Int.reduceLE,Int.reduceAdd,Int.reduceToNat,reduceIte,reduceCtorEq]|(refine hK _ ?_;clear hK K')|apply zan|(apply QR;(focus exact zca))|(refine zis ?_;first|(apply aa1;(focus exact rfl);(focus exact zpc);(focus exact rfl);(focus exact rfl))|(apply aa0;(focus exact zpc))|(apply aiD;(focus exact zpc))|(apply au3;(focus exact zpc))|(apply au0;(focus exact rfl);(focus exact rfl);(focus exact zpc);(focus exact rfl);(focus exact zse))|(apply ape;(focus exact rfl);(focus exact zpc);(focus exact rfl);(focus exact zse))|(apply jk;(focus exact rfl);(focus exact zpc);(focus exact rfl);(focus exact zse))|(apply auZ;(focus exact rfl);(focus exact zpc);(focus exact zrd))|(apply au5;(focus exact rfl);(focus exact zpc);(focus exact zrd))|(apply au2;(focus exact rfl);(focus exact zpc);(focus exact zrd))|(apply auY;(focus exact rfl);(focus exact rfl);(focus exact zpc);(focus exact zrd);(focus exact zro))|(apply au4;(focus exact rfl);(focus exact rfl);(focus exact zpc);(focus exact zrd);(focus exact zro))|(apply au1;(focus exact rfl);(focus exact rfl);(focus exact zpc);(focus exact zrd);(focus exact zro)))|(refine zir ?_;first|(apply QG;(focus exact zca))|(apply abC;(focus exact rfl);(focus exact zrd);(focus exact zrd);(focus exact zpc);(focus exact rfl);(focus exact rfl);(focus exact zrd))|(apply adx;(focus exact zpc))|(apply arR;(focus exact rfl);(focus exact zrd);(focus exact zrd);(focus exact zpc);(focus exact zrd))|(apply arQ;(focus exact rfl);(focus exact rfl);(focus exact zrd);(focus exact zrd);(focus exact zpc);(focus exact zrd);(focus exact zro))|(apply aqD;(focus exact zpc))|(apply aqB;(focus exact rfl);(focus exact rfl);(focus exact zrd);(focus exact zrd);(focus exact zpc);(focus exact rfl);(focus exact zse))|(apply abB;(focus exact zpc);(focus exact zrd)))|exact zsq|exact hq.h|fail));done)|fail):p:=h
theorem zbr {p a b ca cb da db qa qb:Prop} (hq:ZW ((da→qa)∧(db→qb))) (h:(ca→a)→(cb→b)→p:=by first|exact fun k l=>anp ⟨_,rfl,k,l⟩|exact ayc|exact ayd|fail)
  (ea:ca→da:=by exact zcx) (eb:cb→db:=by exact zcx)
  (ha:da→ZW qa→a:=by (first|(intro hc hq;first|exact znh|exact azp)|fail))
  (hb:db→ZW qb→b:=by (first|(intro hc hq;first|exact znh|exact azp)|fail))
  (h1:ZF qa:=by first|with_reducible exact ZF.u|exact ZF.t _) (h2:ZF qb:=by first|with_reducible exact ZF.u|exact ZF.t _):p:=h (fun c=>ha (ea c) ⟨hq.1.1 (ea c)⟩) (fun c=>hb (eb c) ⟨hq.1.2 (eb c)⟩)
theorem zgo {p q:Prop} (k:q) (h:ZW q→p:=by (first|(intro hq;exact azp)|fail)) (h1:ZF q:=by first|with_reducible exact ZF.u|exact ZF.t _):p:=h ⟨k⟩
theorem zbx {p a b ca cb da db:Prop} (h:(ca→a)→(cb→b)→p:=by first|exact fun k l=>anp ⟨_,rfl,k,l⟩|exact ayc|exact ayd|fail)
  (ea:ca→da:=by exact zcx) (eb:cb→db:=by exact zcx)
  (ha:da→a:=by (first|(intro hc;first|exact znh|exact zg)|fail))
  (hb:db→b:=by (first|(intro hc;first|exact znh|exact zg)|fail)):p:=h (fun c=>ha (ea c)) (fun c=>hb (eb c))
theorem zg {p:Prop} (h:p:=by first|((repeat' (first|(refine zsk ?_;intro K' hK)|refine zsp ?_|exact zbx|(refine zrg ?_;intro K' hK)|simp (maxSteps:=1000000) only [go_sem,zx,Int.toNat_natCast,zi,Nat.reduceAdd,Nat.reduceMul,Nat.reduceEqDiff,Nat.reduceLeDiff,Nat.reduceLT,Nat.reduceSub,Int.reduceEq,Int.reduceBEq,Int.reduceLT,Int.reduceLE,Int.reduceAdd,Int.reduceToNat,reduceIte,reduceCtorEq]|simp (maxSteps:=1000000) only [go_sem,Nat.reduceAdd,Nat.reduceMul,Nat.reduceEqDiff,Nat.reduceLeDiff,Nat.reduceLT,Nat.reduceSub,Int.reduceEq,Int.reduceBEq,Int.reduceLT,Int.reduceLE,Int.reduceAdd,Int.reduceToNat,reduceIte,reduceCtorEq]|(refine hK _ ?_;clear hK K')|apply zan|(apply QR;(focus exact zca))|(refine zis ?_;first|(apply aa1;(focus exact rfl);(focus exact zpc);(focus exact rfl);(focus exact rfl))|(apply aa0;(focus exact zpc))|(apply aiD;(focus exact zpc))|(apply au3;(focus exact zpc))|(apply au0;(focus exact rfl);(focus exact rfl);(focus exact zpc);(focus exact rfl);(focus exact zse))|(apply ape;(focus exact rfl);(focus exact zpc);(focus exact rfl);(focus exact zse))|(apply jk;(focus exact rfl);(focus exact zpc);(focus exact rfl);(focus exact zse))|(apply auZ;(focus exact rfl);(focus exact zpc);(focus exact zrd))|(apply au5;(focus exact rfl);(focus exact zpc);(focus exact zrd))|(apply au2;(focus exact rfl);(focus exact zpc);(focus exact zrd))|(apply auY;(focus exact rfl);(focus exact rfl);(focus exact zpc);(focus exact zrd);(focus exact zro))|(apply au4;(focus exact rfl);(focus exact rfl);(focus exact zpc);(focus exact zrd);(focus exact zro))|(apply au1;(focus exact rfl);(focus exact rfl);(focus exact zpc);(focus exact zrd);(focus exact zro)))|(refine zir ?_;first|(apply QG;(focus exact zca))|(apply abC;(focus exact rfl);(focus exact zrd);(focus exact zrd);(focus exact zpc);(focus exact rfl);(focus exact rfl);(focus exact zrd))|(apply adx;(focus exact zpc))|(apply arR;(focus exact rfl);(focus exact zrd);(focus exact zrd);(focus exact zpc);(focus exact zrd))|(apply arQ;(focus exact rfl);(focus exact rfl);(focus exact zrd);(focus exact zrd);(focus exact zpc);(focus exact zrd);(focus exact zro))|(apply aqD;(focus exact zpc))|(apply aqB;(focus exact rfl);(focus exact rfl);(focus exact zrd);(focus exact zrd);(focus exact zpc);(focus exact rfl);(focus exact zse))|(apply abB;(focus exact zpc);(focus exact zrd)))|exact zsq|exact zr|(simp only [*];exact zr)|(subst hc;exact zr)|fail));done)|fail):p:=h
theorem zc3 {p:Prop} (h:p:=by first|exact aig _ _|exact amk.cells_closed _|exact Wj _|simp only [V.closed,Qh,and_self,and_true,true_and]):p:=h
theorem zet {p:Prop} (h:p:=by first|(simp only [Nat.reduceAdd,ovT,Xr,Nat.reduceEqDiff,reduceIte,XQ,WQ,alK,u32,u33,u34,u35,u36,u37,u38,u39,and_self,and_true,true_and];done)|(simp only [Nat.reduceAdd,ovT,Xr,Nat.reduceEqDiff,reduceIte,XQ,WQ,alK,u32,u33,u34,u35,u36,u37,u38,u39,and_self,and_true,true_and];rfl)|fail):p:=h
theorem zoe {p:Prop} (h:p:=by intro a ha;simp only [u32,u33,u34,u35,u36,u37,u38,u39];repeat rw [if_neg (by omega)]):p:=h
theorem zlt {p:Prop} (h:p:=by intro i hi;simp only [ovT,Xr,Nat.reduceEqDiff,reduceIte];(repeat' first|exact apZ|refine amE ?_ ?_|simp only [V.lt,ltL,and_self,and_true]|omega)):p:=h
theorem zol {p:Prop} (h:p:=by repeat' first|exact avL|refine ajX (by omega) (by simp only [Ob.lt,ltL,V.lt,and_self,and_true];try omega) ?_):p:=h
@[go_sem] abbrev vi0:Value:=.int .i64 0
@[go_sem] abbrev vs0:Value:=.string ⟨#[]⟩
@[go_sem] abbrev vn0:Value:=.slice none 0 0
def aoO:OP→List AO
 | .done=>[]
 | .one _ _ _ x t=>x :: aoO t
 | .or _ _ _ x t _=>x :: aoO t
def och:Nat→Nat→OT
 | _,0=>.done
 | i,n + 1=>.one i (och (i + 1) n)
@[go_sem] def oN (j:Nat) (x:AO) (t:OP):OP:=.one j false [] x t
attribute [go_sem] aqa asx V.ren K3 Qi V.lt ltL Ob.weak KK
attribute [go_sem_proc] Int.reduceAdd Int.reduceBEq Int.reduceEq Int.reduceLE Int.reduceLT Int.reduceToNat Nat.reduceAdd Nat.reduceEqDiff Nat.reduceLT Nat.reduceLeDiff Nat.reduceMul Nat.reduceSub reduceCtorEq reduceIte
end Av
end
