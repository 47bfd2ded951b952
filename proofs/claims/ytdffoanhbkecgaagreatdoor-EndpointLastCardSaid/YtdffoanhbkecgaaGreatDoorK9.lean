/- Strings as lists of bytes, lists of integers: what the operations do to them. -/
import Derived.Test.YtdffoanhbkecgaaGreatDoorK8
import Derived.Laws.Strings
set_option linter.unusedVariables false
set_option linter.unusedSimpArgs false
section
namespace Av
open Go
theorem acY (l:List UInt8):(⟨l.toArray⟩:ByteArray).size = l.length:=by simp [ByteArray.size]
theorem ala (a b:List UInt8):(⟨a.toArray⟩:ByteArray)++⟨b.toArray⟩ = ⟨(a++b).toArray⟩:=by
  apply ByteArray.ext
  simp
theorem vO (l:List UInt8):(⟨l.toArray⟩:ByteArray).toList = l:=by
  exact ByteArray.toList_mk l
theorem ak9 (l:List UInt8) (a b:Nat):(⟨l.toArray⟩:ByteArray).extract a b = ⟨((l.drop a).take (b - a)).toArray⟩:=by
  apply ByteArray.ext
  simp [List.extract_eq_take_drop]
theorem alQ (a b:List UInt8):acv .add ⟨a.toArray⟩ ⟨b.toArray⟩ = .asrt (a.length + b.length < 2 ^ 62) (.ret { v:=V.str (a++b) }):=by
  simp only [acv,acY,ala]
theorem alP (a b:List UInt8):acv .eql ⟨a.toArray⟩ ⟨b.toArray⟩ = .ret { v:=.bool (a == b) }:=by
  simp only [acv,vO]
theorem alK (a b:List UInt8):acv .neq ⟨a.toArray⟩ ⟨b.toArray⟩ = .ret { v:=.bool (!(a == b)) }:=by
  simp only [acv,vO]
theorem alL (a b:List UInt8):acv .lss ⟨a.toArray⟩ ⟨b.toArray⟩ = .ret { v:=.bool (Op.bytesLess a b) }:=by
  simp only [acv,vO]
theorem alM (a b:List UInt8):acv .leq ⟨a.toArray⟩ ⟨b.toArray⟩ = .ret { v:=.bool (Op.bytesLess a b || a == b) }:=by
  simp only [acv,vO]
theorem alN (a b:List UInt8):acv .gtr ⟨a.toArray⟩ ⟨b.toArray⟩ = .ret { v:=.bool (!(Op.bytesLess a b || a == b)) }:=by
  simp only [acv,vO]
theorem alO (a b:List UInt8):acv .geq ⟨a.toArray⟩ ⟨b.toArray⟩ = .ret { v:=.bool (!(Op.bytesLess a b)) }:=by
  simp only [acv,vO]
theorem aiB {l:List V} (h:∀ v∈l,v.closed):Qw l:=by
  induction l with
  | nil=>trivial
  | cons v l ih=>exact ⟨h v (by simp),ih fun u hu=>h u (by simp [hu])⟩
end Av
end
section
namespace Av
open Go
theorem Yp {α:Type} {l:List α} {k:Nat} {y:α} {r:List α} (h:l.drop k = y :: r):k < l.length∧l[k]? = some y∧l.drop (k + 1) = r:=by
  have hk:k < l.length:=by
    rcases Nat.lt_or_ge k l.length with h'|h'
    · exact h'
    · rw [List.drop_of_length_le h'] at h;cases h
  rw [List.drop_eq_getElem_cons hk] at h
  simp only [List.cons.injEq] at h
  exact ⟨hk,by rw [List.getElem?_eq_getElem hk,h.1],h.2⟩
theorem YX {α:Type} {l:List α} {k:Nat} (h:l.drop k = []):l.length≤k:=by simpa using h
theorem JO {k:Nat} (h:k < 2 ^ 62):IntKind.i64.wrap ((k:Int) + 1) = ((k + 1:Nat):Int):=by
  rw [Yq (by omega) (by omega)];omega
def YO:List (Nat×V)→Nat→V→V
  | [],_,v=>v
  | (j,u) :: r,k,v=>if k = j then u else YO r k v
def ovT (ts:List (Nat×V)):List (Nat×V)→List (Nat×V)
  | []=>[]
  | (k,v) :: r=>(k,YO ts k v) :: ovT ts r
def ltO (n:Nat) (o:Nat→Option Ob):Prop:=∀ a x,o a = some x→a < n∧x.lt n
theorem Kn {n:Nat} {o:Nat→Option Ob} {a:Nat} {x:Ob} (h1:a < n) (h2:x.lt n) (h:ltO n o):ltO n (upd o a (some x)):=by
  intro b y hb
  by_cases e:b = a
  · subst e;rw [Ja] at hb;cases hb;exact ⟨h1,h2⟩
  · rw [J6 _ _ e] at hb;exact h b y hb
theorem VK {n:Nat}:ltO n (fun _=>none):=by intro a x h;cases h
def ltT (n:Nat) (l:List (Nat×V)):Prop:=∀ p∈l,p.2.lt n
theorem Km {n:Nat}:ltT n []:=by intro p hp;cases hp
theorem VJ {n k:Nat} {v:V} {r:List (Nat×V)} (h1:v.lt n) (h:ltT n r):ltT n ((k,v) :: r):=by
  intro p hp
  rcases List.mem_cons.1 hp with rfl|hp
  · exact h1
  · exact h p hp
def eqT (t:Nat→V) (τ:Nat→Nat) (l:List (Nat×V)):Prop:=∀ p∈l,t p.1 = p.2.ren τ
theorem Yz {t:Nat→V} {τ:Nat→Nat}:eqT t τ []:=by intro p hp;cases hp
theorem J9 {t:Nat→V} {τ:Nat→Nat} {k:Nat} {v:V} {r:List (Nat×V)}:eqT t τ ((k,v) :: r)↔t k = v.ren τ∧eqT t τ r:=by
  constructor
  · intro h;exact ⟨h (k,v) (by simp),fun p hp=>h p (by simp [hp])⟩
  · rintro ⟨h1,h2⟩ p hp
    rcases List.mem_cons.1 hp with rfl|hp
    · exact h1
    · exact h2 p hp
def okN (n m:Nat) (rn:List (Nat×Nat)):Prop:=(∀ p∈rn,n≤p.2∧m≤p.1)∧(rn.map (·.2)).Nodup
theorem x9:∀ (rn:List (Nat×Nat)) (a:Nat),(Jp rn a = a∧∀ p∈rn,p.1≠a)∨(a,Jp rn a)∈rn
  | [],a=>.inl ⟨rfl,by simp⟩
  | (k,v) :: r,a=>by
    simp only [Jp]
    split
    · rename_i h;subst h;exact .inr (by simp)
    · rename_i h
      rcases x9 r a with ⟨h1,h2⟩|h'
      · refine .inl ⟨h1,fun p hp=>?_⟩
        rcases List.mem_cons.1 hp with rfl|hp
        · exact fun e=>h e.symm
        · exact h2 p hp
      · exact .inr (by simp [h'])
theorem ajv {n m:Nat} {rn:List (Nat×Nat)} (h:okN n m rn) {a b:Nat} (ha:a < n) (hb:b < n) (e:Jp rn a = Jp rn b):a = b:=by
  rcases x9 rn a with ⟨h1,_⟩|h1<;>rcases x9 rn b with ⟨h2,_⟩|h2
  · omega
  · have:=(h.1 _ h2).1;simp only at this;omega
  · have:=(h.1 _ h1).1;simp only at this;omega
  · have:=xY h.2 h1 h2 e
    simpa using congrArg Prod.fst this
theorem ajw {n m:Nat} {rn:List (Nat×Nat)} (h:okN n m rn) {k:Nat} (hk:k < m):Jp rn k = k:=by
  rcases x9 rn k with ⟨h1,_⟩|h1
  · exact h1
  · have:=(h.1 _ h1).2;simp only at this;omega
theorem aiP (τ:Nat→Nat) (n:Nat) (x:Ob) (h:x.lt n):(x.ren τ).weak τ n x:=by
  induction x with
  | dead=>trivial
  | typ T x ih=>exact ⟨rfl,ih h⟩
  | box wr cs=>exact ⟨fun h=>h,rfl,h⟩
  | buf wr s xs=>exact ⟨fun h=>h,rfl,rfl⟩
  | obuf wr s xs=>exact ⟨fun h=>h,rfl,rfl,h⟩
  | map ks vs c0=>exact ⟨rfl,rfl,rfl,h⟩
  | iter a since seen last=>exact ⟨rfl,h,rfl,rfl,rfl⟩
theorem akQ {m n:Nat} {s:St} {l:List (Nat×V)} {o:Nat→Option Ob} (rn:List (Nat×Nat)) (hn:okN n m rn) (hm:m≤n) (hl:ltT n l) (hlo:ltO n o)
    (ht:eqT s.t (Jp rn) l) (ho:∀ a,a < n→s.o (Jp rn a) = (o a).map (Ob.ren (Jp rn))):aj5 m (Jp rn) s { t:=x8 l,o:=o,n:=n }:=by
  refine ⟨fun i=>?_,fun a y h=>?_,fun a b ha hb e=>?_,fun k hk=>ajw hn hk,hm⟩
  · rcases adq l i with h|h
    · exact .inl h
    · exact .inr ⟨ht _ h,hl _ h⟩
  · obtain ⟨h1,h2⟩:=hlo a y h
    refine ⟨h1,_,?_,aiP (Jp rn) n y h2⟩
    have:=ho a h1
    simp only at h
    rw [h] at this
    exact this
  · obtain ⟨x,hx⟩:=Option.ne_none_iff_exists'.1 ha
    obtain ⟨y,hy⟩:=Option.ne_none_iff_exists'.1 hb
    exact ajv hn (hlo a x hx).1 (hlo b y hy).1 e
section
variable {C:Ctx} {nt:Nat} {K:St→Prop} {E:Nat→St→Prop} {R:St→Prop}
theorem al7:∀ (k:Nat) (v:V),SizeOf.sizeOf v≤k→v.ren (fun a=>a) = v:=by
  intro k
  induction k with
  | zero=>intro v h;cases v<;>simp at h
  | succ k ih =>
    intro v h
    have list:∀ cs:List V,SizeOf.sizeOf cs≤k→y0 (fun a=>a) cs = cs:=by
      intro cs
      induction cs with
      | nil=>intro _;rfl
      | cons u r ihr=>intro hs;simp at hs;simp only [y0];rw [ih u (by omega),ihr (by omega)]
    cases v<;>simp only [V.ren]<;>simp at h
    all_goals (rw [list _ (by omega)])
theorem w7 (v:V):v.ren (fun a=>a) = v:=al7 _ v (Nat.le_refl _)
theorem amF (cs:List V):y0 (fun a=>a) cs = cs:=by induction cs with
  | nil=>rfl
  | cons v r ih=>simp only [y0,w7,ih]
theorem amE (x:Ob):x.ren (fun a=>a) = x:=by induction x<;>simp_all [Ob.ren,amF]
theorem adr:Jp [] = fun a=>a:=by funext a;rfl
theorem Wz {ks:List Nat} {x:AC} {base:List (Nat×V)} {o0:Nat→Option Ob} {n0:Nat} {ι:Type} (good:ι→Prop) (ts:ι→List (Nat×V)) (msr:ι→Nat) (i0:ι)
    (hm:C.m≤n0) (h0:good i0) (hlo:ltO n0 o0) (hl:∀ i,good i→ltT n0 (ovT (ts i) base)) (ht:eqT (x8 base) (fun a=>a) (ovT (ts i0) base))
    (h:∀ i,good i→∀ K':St→Prop,(∀ s' i',eqT s'.t (fun a=>a) (ovT (ts i') base)→good i'→msr i' < msr i→(∀ a,a < n0→s'.o a = o0 a)→K' s') →
      AWp C nt x { t:=x8 (ovT (ts i) base),o:=o0,n:=n0 } K' E R):AWp C nt (Wv ks x) { t:=x8 base,o:=o0,n:=n0 } K E R:=by
  have hn:okN n0 C.m []:=⟨by simp,by simp⟩
  have ren0:∀ oo:Nat→Option Ob,∀ a,(oo a).map (Ob.ren (Jp [])) = oo a:=by
    intro oo a
    rw [adr]
    cases oo a with
    | none=>rfl
    | some x=>simp [amE]
  refine JF good (fun i=>{ t:=x8 (ovT (ts i) base),o:=o0,n:=n0 }) msr i0 h0 (Jp []) (akQ [] hn hm (hl i0 h0) hlo (by rw [adr];exact ht) (fun a _=>(ren0 o0 a).symm)) ?_
  intro i hi K' hK
  exact h i hi K' fun s' i' h1 h2 h3 h4=>hK s' i' (Jp []) h2 h3 (akQ [] hn hm (hl i' h2) hlo (by rw [adr];exact h1) (fun a ha=>(h4 a ha).trans (ren0 o0 a).symm))
end
end Av
end
section
namespace Av
open Go
def awR (A W:Nat→Bool) (b:Nat) (s:St) (d:Option Nat) (J:St→Prop) (m:AM E):Prop:=m.wp (Xj A s.o) fun e=>okW W b e.os∧J (s.eff d e)
def Ws (A W:Nat→Bool) (b:Nat) (s:St) (d:Option Nat) (J:St→Prop) (k:Ob→AM E) (x:Option Ob):Prop :=
  match x with
  | some ob=>awR A W b s d J (k ob)
  | none=>False
def KE (Γ:Env) (A W:Nat→Bool) (b:Nat) (s:St) (x:AO) (J:St→Prop):Prop:=awG Γ A W b s x J
def Kz (Γ:Env) (fz:Nat→Bool) (b0:Nat) (K:St→Prop) (t:OP) (s:St):Prop:=awP Γ fz b0 K t s
def adh (Γ:Env) (fz:Nat→Bool) (b0:Nat) (K:St→Prop) (t:OP) (s:St):Prop:=alS Γ fz b0 K t s
def jJ (Γ:Env) (A W:Nat→Bool) (b:Nat) (s:St) (x:AO) (g:Nat) (want:Bool) (v:V) (J:St→Prop):Prop :=
  match v with
  | .sc (.bool q)=>(q = want→KE Γ A W b (s.put (some g) (.bool want)) { d:=x.d,op:=x.op } J)∧(q = !want→J ((s.put (some g) (.bool !want)).put x.d V.und))
  | .tup []=>J (s.put x.d V.und)
  | _=>False
def Wl (Γ:Env) (A W:Nat→Bool) (b:Nat) (s:St) (d:Option Nat) (v:V) (acts:List V) (J:St→Prop):Prop :=
  match v with
  | .clo f cap=>JB Γ A W b s d f.f (f.args acts cap) J
  | _=>False
section
variable {Γ:Env} {A W:Nat→Bool} {fz:Nat→Bool} {b b0:Nat} {s:St} {d:Option Nat} {J K:St→Prop}
theorem ai2:Kz Γ fz b0 K .done s↔K s:=by simp only [Kz,awP]
theorem akc {j:Nat} {X:Bool} {acl:List Nat} {x:AO} {t:OP}:Kz Γ fz b0 K (.one j X acl x t) s↔KE Γ (rA X acl fz b0) (rW X acl fz b0) (b0 + j * KK) s x (Kz Γ fz b0 K t):=by
  simp only [Kz,awP,KE];exact Iff.rfl
theorem alf {j:Nat} {X:Bool} {acl:List Nat} {x:AO} {t r:OP}:Kz Γ fz b0 K (.or j X acl x t r) s↔KE Γ (rA X acl fz b0) (rW X acl fz b0) (b0 + j * KK) s x (Kz Γ fz b0 K t)∧adh Γ fz b0 K r s:=by
  simp only [Kz,adh,awP,KE];exact Iff.rfl
theorem akd {j:Nat} {X:Bool} {acl:List Nat} {x:AO} {t r:OP}:adh Γ fz b0 K (.or j X acl x t r) s↔KE Γ (rA X acl fz b0) (rW X acl fz b0) (b0 + j * KK) s x (Kz Γ fz b0 K t)∧adh Γ fz b0 K r s:=by
  simp only [Kz,adh,alS,KE];exact Iff.rfl
theorem ah0:adh Γ fz b0 K .done s↔True:=by simp only [adh,alS]
theorem ah2 {x:Opd} {as:List Opd}:KE Γ A W b s ⟨d,.callv x as,none⟩ J↔Wl Γ A W b s d (s.ev x) (as.map s.ev) J:=by
  simp only [KE,awG,ajV,Wl]
  cases s.ev x<;>rfl
theorem al5 {aop:AOp} {g:Nat} {want:Bool}:KE Γ A W b s ⟨d,aop,some (g,want)⟩ J↔jJ Γ A W b s ⟨d,aop,none⟩ g want (s.t g) J:=by
  simp only [KE,awG]
  constructor
  · rintro ⟨q,hq,h1,h2⟩
    unfold jJ
    rcases q with _|q
    · have hq:s.t g = .tup []:=hq
      rw [hq]
      exact h2 (by simp)
    · have hq:s.t g = .bool q:=hq
      rw [hq]
      refine ⟨fun e=>?_,fun e=>?_⟩
      · rw [yG (by rw [hq,e])];exact h1 (by rw [e])
      · rw [yG (by rw [hq,e])]
        exact h2 (by rw [e];cases want<;>simp)
  · intro h
    unfold jJ at h
    split at h
    · rename_i q hq
      refine ⟨some q,hq,fun e=>?_,fun e=>?_⟩
      · cases e
        have:=h.1 rfl
        rw [yG hq] at this
        exact this
      · have e':q = !want:=by cases q<;>cases want<;>simp_all
        have:=h.2 e'
        rw [yG (by rw [hq,e'])] at this
        exact this
    · rename_i hq
      exact ⟨none,hq,(fun e=>by cases e),fun _=>h⟩
    · exact h.elim
theorem amn {a:Nat} {k:Ob→AM E}:awR A W b s d J (.rd a k)↔Ws A W b s d J k (Xj A s.o a):=by
  unfold Ws
  cases h:Xj A s.o a with
  | none=>simp [awR,AM.wp,h]
  | some ob=>simp [awR,AM.wp,h]
theorem abJ (A:Nat→Bool) (o:Nat→Option Ob) (a:Nat):Xj A o a = if A a = true then o a else none:=rfl
theorem als:okW W b []↔True:=by simp [okW]
theorem akr {q:Nat×Ob} {r:List (Nat×Ob)}:okW W b (q :: r)↔(W q.1 || (decide (b≤q.1) && decide (q.1 < b + KK))) = true∧okW W b r:=by simp [okW]
theorem amr {f:FuncId} {acts:List V} {res:V} (hc:JN (Xj A s.o) none acts) (h:EvN Γ f (X9 (Xj A s.o) acts) res) (hk:J { t:=(s.put d res).t,o:=s.o,n:=s.n }):JB Γ A W b s d f acts J :=
  alH h.1 rfl hc h.2.1 h.2.2 hk
theorem amt {f:FuncId} {acts:List V} {res:V} (hc:JN (Xj A s.o) (some []) acts) (h:EvC Γ f (X9 (Xj A s.o) acts) res) (hk:J { t:=(s.put d res).t,o:=s.o,n:=s.n }):JB Γ A W b s d f acts J :=
  alI h.1 rfl hc h.2 hk
end
section
variable {C:Ctx} {nt:Nat} {s:St} {K:St→Prop} {E:Nat→St→Prop} {R:St→Prop}
theorem Qm {ks L:List Nat} {ot:OT} {p:OP} {ops:List AO} {ahead:List (List Nat)} {y:AC} (N:Nat) (fz:Nat→Bool) (hN:ops.length = N) (hc:okR ops ahead L ot = true) (hp:Vo (ris ops ahead L) ot = p)
    (h:∀ K':St→Prop,(∀ s',AWp C nt y s' K E R→K' s')→Kz C.env fz s.n (fun s'=>K' ((s'.wn (s.n + N * KK)).keep ks)) p s):AWp C nt (QF ks (aaY L ot p ops ahead) y) s K E R:=by
  subst hN
  exact Qq (ahL fz hc hp (h _ fun _ h=>h))
theorem Qn {L:List Nat} {ot:OT} {p:OP} {ops:List AO} {ahead:List (List Nat)} (N:Nat) (fz:Nat→Bool) (hN:ops.length = N) (hc:okR ops ahead L ot = true) (hp:Vo (ris ops ahead L) ot = p)
    (h:∀ K':St→Prop,(∀ s',K s'→K' s')→Kz C.env fz s.n (fun s'=>K' (s'.wn (s.n + N * KK))) p s):AWp C nt (aaY L ot p ops ahead) s K E R:=by
  subst hN
  exact ahL fz hc hp (h _ fun _ h=>h)
end
end Av
end
section
set_option linter.unusedVariables false
namespace Av
open Go
def amA (o:Nat→Option Ob) (off len:Nat):Option Ob→V
  | some (.buf _ s xs)=>.sl s ((xs.drop off).take len)
  | some (.obuf _ s xs)=>.sl s (wP o ((xs.drop off).take len))
  | _=>.top
def hdC (o:Nat→Option Ob) (br:List Nat) (B:Option (List Nat)) (off len s:Nat) (ys:List V):Option Ob→Prop
  | some (.buf _ s1 xs)=>s1 = s∧ys = (xs.drop off).take len
  | some (.obuf _ s1 xs)=>s1 = s∧YA o br B ((xs.drop off).take len) ys∧ntL ys∧Qw ys
  | _=>False
theorem amh (o:Nat→Option Ob) (br:List Nat) (B:Option (List Nat)) (a off len s:Nat) (ys:List V):conv o br B (.hd a off len) (.sl s ys)↔okB B a∧a ∉ br∧hdC o br B off len s ys (o a):=by
  rw [amT];unfold hdC;constructor
  · rintro ⟨h1,h2,⟨wr,xs,h3,h4⟩|⟨wr,xs,h3,h4⟩⟩<;>rw [h3]<;>exact ⟨h1,h2,rfl,h4⟩
  · rintro ⟨h1,h2,h3⟩;split at h3
    · rename_i wr s1 xs e;obtain ⟨rfl,h4⟩:=h3;exact ⟨h1,h2,.inl ⟨wr,xs,e,h4⟩⟩
    · rename_i wr s1 xs e;obtain ⟨rfl,h4⟩:=h3;exact ⟨h1,h2,.inr ⟨wr,xs,e,h4⟩⟩
    · exact h3.elim
def alc (off:Nat):Option Ob→V
  | some (.box _ cs)=>.ro cs off
  | _=>.top
def awB (q want:Bool) (A B:Prop):Prop:=(q = want→A)∧(q = !want→B)
@[congr] theorem amv {q q2 want:Bool} {A B:Prop} (h:q = q2):awB q want A B = awB q2 want A B:=by rw [h]
@[go_sem ↓] theorem ane {A B:Prop}:awB true true A B = A:=by simp [awB]
@[go_sem ↓] theorem anc {A B:Prop}:awB false true A B = B:=by simp [awB]
@[go_sem ↓] theorem anb {A B:Prop}:awB true false A B = B:=by simp [awB]
@[go_sem ↓] theorem ana {A B:Prop}:awB false false A B = A:=by simp [awB]
theorem QM {q:Bool} {A B:Prop} (h1:q = true→A) (h2:q = false→B):awB q true A B:=⟨h1,h2⟩
theorem QN {q:Bool} {A B:Prop} (h1:q = false→A) (h2:q = true→B):awB q false A B:=⟨h1,h2⟩
section
variable {Γ:Env} {A W:Nat→Bool} {fz:Nat→Bool} {b b0:Nat} {r:List AO} {s:St} {d:Option Nat} {J K:St→Prop} {o:Nat→Option Ob} {br:List Nat} {B:Option (List Nat)}
@[go_sem] theorem u1:V7 Γ b [] s K = K { t:=s.t,o:=s.o,n:=b }:=propext Iff.rfl
@[go_sem] theorem u2 {x:AO}:V7 Γ b (x :: r) s K = (match x.g with|none=>(match x.op with|.call f as=>awC Γ b r s x.d f (as.map s.ev) K|.callv y as=>jS Γ b r s x.d (s.ev y) (as.map s.ev) K|op=>awS Γ b r s x.d K (sem b s.ev op))|some (g,want)=>awQ Γ b r s ⟨x.d,x.op,none⟩ g want (s.t g) K):=by
  obtain ⟨d,op,g⟩:=x
  cases g with
  | some p=>obtain ⟨g,want⟩:=p;exact propext al4
  | none =>
    cases op
    case callv y as=>exact propext ah1
    all_goals rfl
@[go_sem] theorem u3 {f:FuncId} {cap acts:List V}:jS Γ b r s d (.clo (.n f) cap) acts K = awC Γ b r s d f (acts++cap) K:=propext Iff.rfl
@[go_sem] theorem u4 {x:AO} {g:Nat} {want q:Bool}:awQ Γ b r s x g want (.sc (.bool q)) K = awB q want (V7 Γ b (⟨x.d,x.op,none⟩ :: r) (s.put (some g) (.bool want)) K) (V7 Γ (b + KK) r ((s.put (some g) (.bool !want)).put x.d V.und) K):=propext Iff.rfl
@[go_sem] theorem u5 {x:AO} {g:Nat} {want:Bool}:awQ Γ b r s x g want (.tup []) K = V7 Γ (b + KK) r (s.put x.d V.und) K:=propext Iff.rfl
@[go_sem] theorem u6 {e:E}:awS Γ b r s d K (.ret e) = V7 Γ (b + KK) r (s.eff d e) K:=propext Iff.rfl
@[go_sem] theorem u7 {p:Prop} {m:AM E}:awS Γ b r s d K (.asrt p m) = (p∧awS Γ b r s d K m):=propext Iff.rfl
@[go_sem] theorem u8 {a:Nat} {k:Ob→AM E}:awS Γ b r s d K (.rd a k) = jY Γ b r s d K k (s.o a):=propext amm
@[go_sem] theorem u9 {k:Bool→AM E}:awS Γ b r s d K (.any k) = ∀ t,awS Γ b r s d K (k t):=propext Iff.rfl
@[go_sem] theorem u10:awS Γ b r s d K .no = False:=propext Iff.rfl
@[go_sem] theorem u11 {k:Ob→AM E} {ob:Ob}:jY Γ b r s d K k (some ob) = awS Γ b r s d K (k ob):=propext Iff.rfl
@[go_sem] theorem u12:Kz Γ fz b0 K .done s = K s:=propext ai2
@[go_sem] theorem u13 {j:Nat} {X:Bool} {acl:List Nat} {x:AO} {t r:OP}:Kz Γ fz b0 K (.or j X acl x t r) s = (KE Γ (rA X acl fz b0) (rW X acl fz b0) (b0 + j * KK) s x (Kz Γ fz b0 K t)∧adh Γ fz b0 K r s):=propext alf
@[go_sem] theorem u14 {j:Nat} {X:Bool} {acl:List Nat} {x:AO} {t r:OP}:adh Γ fz b0 K (.or j X acl x t r) s = (KE Γ (rA X acl fz b0) (rW X acl fz b0) (b0 + j * KK) s x (Kz Γ fz b0 K t)∧adh Γ fz b0 K r s):=propext akd
@[go_sem] theorem u15 {j:Nat} {X:Bool} {acl:List Nat} {x:AO} {t:OP}:Kz Γ fz b0 K (.one j X acl x t) s = KE Γ (rA X acl fz b0) (rW X acl fz b0) (b0 + j * KK) s x (Kz Γ fz b0 K t):=propext akc
@[go_sem] theorem u16:adh Γ fz b0 K .done s = True:=propext ah0
@[go_sem] theorem u17 {x:AO}:KE Γ A W b s x J = (match x.g with|none=>(match x.op with|.call f as=>JB Γ A W b s x.d f (as.map s.ev) J|.callv y as=>Wl Γ A W b s x.d (s.ev y) (as.map s.ev) J|op=>awR A W b s x.d J (sem b s.ev op))|some (g,want)=>jJ Γ A W b s ⟨x.d,x.op,none⟩ g want (s.t g) J):=by
  obtain ⟨d,op,g⟩:=x
  cases g with
  | some p=>obtain ⟨g,want⟩:=p;exact propext al5
  | none =>
    cases op
    case callv y as=>exact propext ah2
    all_goals rfl
@[go_sem] theorem u18 {f:FuncId} {cap acts:List V}:Wl Γ A W b s d (.clo (.n f) cap) acts J = JB Γ A W b s d f (acts++cap) J:=propext Iff.rfl
@[go_sem] theorem u19 {x:AO} {g:Nat} {want q:Bool}:jJ Γ A W b s x g want (.sc (.bool q)) J = awB q want (KE Γ A W b (s.put (some g) (.bool want)) ⟨x.d,x.op,none⟩ J) (J ((s.put (some g) (.bool !want)).put x.d V.und)):=propext Iff.rfl
@[go_sem] theorem u20 {x:AO} {g:Nat} {want:Bool}:jJ Γ A W b s x g want (.tup []) J = J (s.put x.d V.und):=propext Iff.rfl
@[go_sem] theorem u21:awR A W b s d J .no = False:=propext Iff.rfl
@[go_sem] theorem u22 {e:E}:awR A W b s d J (.ret e) = (okW W b e.os∧J (s.eff d e)):=propext Iff.rfl
@[go_sem] theorem u23 {p:Prop} {m:AM E}:awR A W b s d J (.asrt p m) = (p∧awR A W b s d J m):=propext Iff.rfl
@[go_sem] theorem u24 {a:Nat} {k:Ob→AM E}:awR A W b s d J (.rd a k) = Ws A W b s d J k (Xj A s.o a):=propext amn
@[go_sem] theorem u25 {k:Ob→AM E} {ob:Ob}:Ws A W b s d J k (some ob) = awR A W b s d J (k ob):=propext Iff.rfl
@[go_sem] theorem u26 {A:Nat→Bool} {o:Nat→Option Ob} {a:Nat}:Xj A o a = if A a = true then o a else none:=rfl
@[go_sem] theorem u27 {W:Nat→Bool} {b:Nat}:okW W b [] = True:=propext als
@[go_sem] theorem u28 {W:Nat→Bool} {b:Nat} {q:Nat×Ob} {r:List (Nat×Ob)}:okW W b (q :: r) = ((W q.1 || (decide (b≤q.1) && decide (q.1 < b + KK))) = true∧okW W b r):=propext akr
@[go_sem] theorem u29 {X:Bool} {acl:List Nat} {fz:Nat→Bool} {b0 a:Nat}:rA X acl fz b0 a = ((decide (a < b0) && (X || fz a)) || acl.any fun i=>decide (b0 + i * KK≤a) && decide (a < b0 + i * KK + KK)):=rfl
@[go_sem] theorem u30 {X:Bool} {acl:List Nat} {fz:Nat→Bool} {b0 a:Nat}:rW X acl fz b0 a = (X && ((decide (a < b0) && !fz a) || acl.any fun i=>decide (b0 + i * KK≤a) && decide (a < b0 + i * KK + KK))):=rfl
@[go_sem] theorem u31 {s:St} {n:Nat}:s.wn n = { t:=s.t,o:=s.o,n:=n }:=rfl
@[go_sem] theorem u32 {ks:List Nat} {s:St}:s.keep ks = { t:=x8 (ks.map fun k=>(k,s.t k)),o:=s.o,n:=s.n }:=rfl
@[go_sem] theorem u33 {α:Type} {f:Nat→α} {a:Nat} {v:α} {i:Nat}:upd f a v i = if i = a then v else f i:=rfl
@[go_sem] theorem u34 {k:Nat} {v:V} {r:List (Nat×V)} {i:Nat}:x8 ((k,v) :: r) i = if i = k then v else x8 r i:=rfl
@[go_sem] theorem u35 {i:Nat}:x8 [] i = .top:=rfl
@[go_sem] theorem u36 {k:Nat} {v:Ob} {r:List (Nat×Ob)} {i:Nat}:acz ((k,v) :: r) i = if i = k then some v else acz r i:=rfl
@[go_sem] theorem u37 {i:Nat}:acz [] i = none:=rfl
@[go_sem] theorem u38 {args:List V} {ins:List Ob}:VO args ins = { t:=fun i=>(args[i]?).getD .top,o:=fun k=>ins[k]?,n:=ins.length }:=rfl
@[go_sem] theorem u39 {ts:List (Nat×V)} {os:List (Nat×Ob)} {n:Nat}:Ym ts os n = { t:=x8 ts,o:=acz os,n:=n }:=rfl
@[go_sem] theorem u40 {α:Type}:([]:List α).length = 0:=rfl
@[go_sem] theorem u41 {α:Type} {a:α} {l:List α}:(a :: l).length = l.length + 1:=rfl
@[go_sem] theorem u42 {α:Type} {a:α} {l:List α}:(a :: l)[0]? = some a:=rfl
@[go_sem] theorem u43 {α:Type} {a:α} {l:List α} {i:Nat}:(a :: l)[i + 1]? = l[i]?:=rfl
@[go_sem] theorem u44 {α:Type} {a b:α}:(some a).getD b = a:=rfl
@[go_sem] theorem u45 {α:Type} {b:α}:(none:Option α).getD b = b:=rfl
@[go_sem] theorem u46 {α β:Type} {f:α→β}:(none:Option α).map f = none:=rfl
@[go_sem] theorem u47 {α β:Type} {f:α→β} {a:α}:(some a).map f = some (f a):=rfl
@[go_sem] theorem u48 {α β:Type} {f:α→β}:([]:List α).map f = []:=rfl
@[go_sem] theorem u49 {α β:Type} {f:α→β} {a:α} {l:List α}:(a :: l).map f = f a :: l.map f:=rfl
@[go_sem] theorem u50 {α:Type} {l:List α}:[]++l = l:=rfl
@[go_sem] theorem u51 {α:Type} {a:α} {l r:List α}:(a :: l)++r = a :: (l++r):=rfl
@[go_sem] theorem u52 {α:Type} {l:List α}:l.take 0 = []:=rfl
@[go_sem] theorem u53 {α:Type} {a:α} {l:List α} {n:Nat}:(a :: l).take (n + 1) = a :: l.take n:=rfl
@[go_sem] theorem u54 {α:Type} {l:List α}:l.drop 0 = l:=rfl
@[go_sem] theorem u55 {α:Type} {a:α} {l:List α} {n:Nat}:(a :: l).drop (n + 1) = l.drop n:=rfl
@[go_sem] theorem u56 {α:Type} {p:α→Bool}:([]:List α).any p = false:=rfl
@[go_sem] theorem u57 {α:Type} {p:α→Bool} {a:α} {l:List α}:(a :: l).any p = (p a || l.any p):=rfl
@[go_sem] theorem u58 {α β:Type} {f:β→α→β} {b:β}:([]:List α).foldl f b = b:=rfl
@[go_sem] theorem u59 {α β:Type} {f:β→α→β} {b:β} {a:α} {l:List α}:(a :: l).foldl f b = l.foldl f (f b a):=rfl
@[go_sem] theorem u60 {α:Type} {a:α}:List.replicate 0 a = []:=rfl
@[go_sem] theorem u61 {α:Type} {n:Nat} {a:α}:List.replicate (n + 1) a = a :: List.replicate n a:=rfl
@[go_sem] theorem u62 {α:Type} {a b:α} {l:List α}:(a :: l).set 0 b = b :: l:=rfl
@[go_sem] theorem u63 {α:Type} {a b:α} {l:List α} {n:Nat}:(a :: l).set (n + 1) b = a :: l.set n b:=rfl
@[go_sem] theorem u64 {n:Nat}:n + 0 = n:=rfl
@[go_sem] theorem u65 {n:Nat}:(n:Int).toNat = n:=rfl
@[go_sem] theorem u66 {α:Type} {i:Nat}:([]:List α)[i]? = none:=by simp
@[go_sem] theorem u67 {α:Type} {l:List α}:l++[] = l:=by simp
@[go_sem] theorem u68 {α:Type} {n:Nat}:([]:List α).take n = []:=by simp
@[go_sem] theorem u69 {α:Type} {n:Nat}:([]:List α).drop n = []:=by simp
@[go_sem] theorem u70 {n:Nat}:0 + n = n:=by simp
@[go_sem] theorem u71 {n:Nat}:(0≤(n:Int)) = True:=by simp
@[go_sem] theorem u72 {n:Nat}:(n≤n) = True:=by simp
@[go_sem] theorem u73 {α:Type} {p:α→Prop} {a:α} {l:List α}:(∀ x∈a :: l,p x) = (p a∧∀ x∈l,p x):=by simp
@[go_sem] theorem u74 {α:Type} {p:α→Prop}:(∀ x∈([]:List α),p x) = True:=by simp
@[go_sem] theorem u75 {α:Type} {a:α}:(a∈([]:List α)) = False:=by simp
@[go_sem] theorem u76 {p:Prop}:(True∧p) = p:=by simp
@[go_sem] theorem u77 {p:Prop}:(p∧True) = p:=by simp
@[go_sem] theorem u78 {p:Prop}:(False∧p) = False:=by simp
@[go_sem] theorem u79 {p:Prop}:(True∨p) = True:=by simp
@[go_sem] theorem u80 {p:Prop}:(p∨True) = True:=by simp
@[go_sem] theorem u81 {p:Prop}:(False∨p) = p:=by simp
@[go_sem] theorem u82 {p:Prop}:(p∨False) = p:=by simp
@[go_sem] theorem u83:(¬ True) = False:=by simp
@[go_sem] theorem u84:(¬ False) = True:=by simp
@[go_sem] theorem u85 {p:Prop}:(False→p) = True:=by simp
@[go_sem] theorem u86 {p:Prop}:(True→p) = p:=by simp
@[go_sem] theorem u87 {α:Type}:(α→True) = True:=by simp
@[go_sem] theorem u88 {p:Prop}:(p→True) = True:=by simp
@[go_sem] theorem u89:(false = true) = False:=by simp
@[go_sem] theorem u90:(true = false) = False:=by simp
@[go_sem] theorem u91 {α:Type} {a b:α}:(some a = some b) = (a = b):=by simp
@[go_sem] theorem u92 {α:Type} {a:α}:(a = a) = True:=by simp
@[go_sem] theorem u93:decide True = true:=by simp
@[go_sem] theorem u94:decide False = false:=by simp
@[go_sem] theorem u95:(!true) = false:=rfl
@[go_sem] theorem u96:(!false) = true:=rfl
@[go_sem] theorem u97 {b:Bool}:(true && b) = b:=rfl
@[go_sem] theorem u98 {b:Bool}:(false && b) = false:=rfl
@[go_sem] theorem u99 {b:Bool}:(true || b) = true:=rfl
@[go_sem] theorem aoW {b:Bool}:(false || b) = b:=rfl
@[go_sem] theorem aoV {α:Type} {a b:α}:(a≠b) = ¬ (a = b):=rfl
@[go_sem] theorem aoU {b:Bool}:(b && true) = b:=by simp
@[go_sem] theorem aoT {b:Bool}:(b && false) = false:=by simp
@[go_sem] theorem aoS {b:Bool}:(b || true) = true:=by simp
@[go_sem] theorem aoR {b:Bool}:(b || false) = b:=by simp
@[go_sem] theorem aoQ {v:V}:conv o br B v .top = True:=propext (by apply ame)
@[go_sem] theorem aoP {v u:Value}:conv o br B (.sc v) (.sc u) = (v = u):=propext (by apply amQ)
@[go_sem] theorem aoO {s:Nat} {ys:List V}:conv o br B (.sc (.slice none 0 0)) (.sl s ys) = (ys = []):=propext (by apply amg)
@[go_sem] theorem aoN {s s':Nat} {xs ys:List V}:conv o br B (.sl s xs) (.sl s' ys) = (s = s'∧xs = ys):=propext (by apply amP)
@[go_sem] theorem aoM {a off len s:Nat} {ys:List V}:conv o br B (.hd a off len) (.sl s ys) = (okB B a∧a ∉ br∧hdC o br B off len s ys (o a)):=propext (by apply amh)
@[go_sem] theorem aoL {a off off':Nat} {es:List V}:conv o br B (.ptr a off) (.ro es off') = (okB B a∧a ∉ br∧off' = off∧Qw es∧∃ wr cs,o a = some (.box wr cs)∧YA o br B cs es):=propext (by apply amf)
@[go_sem] theorem aoK {off off':Nat} {cs es:List V}:conv o br B (.ro cs off) (.ro es off') = (cs = es∧off' = off):=propext (by apply amR)
@[go_sem] theorem aoJ {cs es:List V}:conv o br B (.agg cs) (.agg es) = YA o br B cs es:=propext (by apply amj)
@[go_sem] theorem aoI {cs es:List V}:conv o br B (.tup cs) (.tup es) = YA o br B cs es:=propext (by apply amd)
@[go_sem] theorem aoH {f g:FK} {cs es:List V}:conv o br B (.clo f cs) (.clo g es) = (f = g∧YA o br B cs es):=propext (by apply ami)
@[go_sem] theorem aoG :conv o br B .nn .nn = True:=propext (by apply amS)
@[go_sem] theorem aoF:YA o br B [] [] = True:=propext (alD _ _ _)
@[go_sem] theorem aoE {v e:V} {r r':List V}:YA o br B (v :: r) (e :: r') = (conv o br B v e∧YA o br B r r'):=propext (akE _ _ _ _ _ _ _)
@[go_sem] theorem aoD {a:Nat}:okB none a = True:=propext (akt _)
@[go_sem] theorem aoC {l:List Nat} {a:Nat}:okB (some l) a = (a∈l):=propext (aks _ _)
@[go_sem] theorem aoB {wr0:Bool} {s0 s:Nat} {xs0:List V} {p:List V→Prop}:(∃ wr xs,some (Ob.buf wr0 s0 xs0) = some (Ob.buf wr s xs)∧p xs) = (s0 = s∧p xs0):=propext aio
@[go_sem] theorem aoA {wr0:Bool} {s0 s:Nat} {xs0:List V} {p:List V→Prop}:(∃ wr xs,Ob.buf wr0 s0 xs0 = Ob.buf wr s xs∧p xs) = (s0 = s∧p xs0):=propext ag1
@[go_sem] theorem aoz {wr0:Bool} {cs0:List V} {p:List V→Prop}:(∃ wr cs,some (Ob.box wr0 cs0) = some (Ob.box wr cs)∧p cs) = p cs0:=propext aip
@[go_sem] theorem aoy {wr0:Bool} {cs0:List V} {p:List V→Prop}:(∃ wr cs,Ob.box wr0 cs0 = Ob.box wr cs∧p cs) = p cs0:=propext ag2
@[go_sem] theorem aox {wr0:Bool} {s0:Nat} {xs0:List V}:(∃ wr s xs,some (Ob.buf wr0 s0 xs0) = some (Ob.buf wr s xs)) = True:=eq_true ⟨wr0,s0,xs0,rfl⟩
@[go_sem] theorem aow {wr0:Bool} {s0:Nat} {xs0:List V}:(∃ wr s xs,Ob.buf wr0 s0 xs0 = Ob.buf wr s xs) = True:=eq_true ⟨wr0,s0,xs0,rfl⟩
@[go_sem] theorem aov {k:IntKind} {a b:Int}:(Value.int k a = Value.int k b) = (a = b):=by simp
@[go_sem] theorem aou {a b:Bool}:(Value.bool a = Value.bool b) = (a = b):=by simp
@[go_sem] theorem aot {l:List UInt8}:(⟨l.toArray⟩:ByteArray).size = l.length:=acY l
@[go_sem] theorem aos {l:List UInt8}:l.toArray.toList = l:=by simp
@[go_sem] theorem aor {l:List UInt8} {a b:Nat}:(⟨l.toArray⟩:ByteArray).extract a b = ⟨((l.drop a).take (b - a)).toArray⟩:=ak9 l a b
@[go_sem] theorem aoq {a b:List UInt8}:acv .add ⟨a.toArray⟩ ⟨b.toArray⟩ = .asrt (a.length + b.length < 2 ^ 62) (.ret { v:=V.str (a++b) }):=alQ a b
@[go_sem] theorem aoo {a b:List UInt8}:acv .eql ⟨a.toArray⟩ ⟨b.toArray⟩ = .ret { v:=.bool (a == b) }:=alP a b
@[go_sem] theorem aon {a b:List UInt8}:acv .neq ⟨a.toArray⟩ ⟨b.toArray⟩ = .ret { v:=.bool (!(a == b)) }:=alK a b
@[go_sem] theorem aom {a b:List UInt8}:acv .lss ⟨a.toArray⟩ ⟨b.toArray⟩ = .ret { v:=.bool (Op.bytesLess a b) }:=alL a b
@[go_sem] theorem aol {a b:List UInt8}:acv .leq ⟨a.toArray⟩ ⟨b.toArray⟩ = .ret { v:=.bool (Op.bytesLess a b || a == b) }:=alM a b
@[go_sem] theorem aok {a b:List UInt8}:acv .gtr ⟨a.toArray⟩ ⟨b.toArray⟩ = .ret { v:=.bool (!(Op.bytesLess a b || a == b)) }:=alN a b
@[go_sem] theorem aoj {a b:List UInt8}:acv .geq ⟨a.toArray⟩ ⟨b.toArray⟩ = .ret { v:=.bool (!(Op.bytesLess a b)) }:=alO a b
@[go_sem] theorem aoi {a b:List UInt8}:(Value.string ⟨a.toArray⟩ = Value.string ⟨b.toArray⟩) = (a = b):=by simp
@[go_sem] theorem aoh {v:Value}:V.shut o (.sc v) = .sc v:=by simp only [V.shut]
@[go_sem] theorem aog :V.shut o .nn = .nn:=by simp only [V.shut]
@[go_sem] theorem aof :V.shut o .top = .top:=by simp only [V.shut]
@[go_sem] theorem aoe {k:Nat} {xs:List V}:V.shut o (.sl k xs) = .sl k xs:=by simp only [V.shut]
@[go_sem] theorem aod {cs:List V} {k:Nat}:V.shut o (.ro cs k) = .ro cs k:=by simp only [V.shut]
@[go_sem] theorem aoc {cs:List V}:V.shut o (.agg cs) = .agg (X9 o cs):=by simp only [V.shut]
@[go_sem] theorem aob {cs:List V}:V.shut o (.tup cs) = .tup (X9 o cs):=by simp only [V.shut]
@[go_sem] theorem aoa {f:FK} {cs:List V}:V.shut o (.clo f cs) = .clo f (X9 o cs):=by simp only [V.shut]
@[go_sem] theorem an9 {a off len:Nat}:V.shut o (.hd a off len) = amA o off len (o a):=by simp only [V.shut,amA]<;>rfl
@[go_sem] theorem an8 {a off:Nat}:V.shut o (.ptr a off) = alc off (o a):=by simp only [V.shut,alc]<;>rfl
@[go_sem] theorem an7 {off len s:Nat} {wr:Bool} {xs:List V}:amA o off len (some (.buf wr s xs)) = .sl s ((xs.drop off).take len):=rfl
@[go_sem] theorem an6 {off:Nat} {wr:Bool} {cs:List V}:alc off (some (.box wr cs)) = .ro cs off:=rfl
@[go_sem] theorem an5:X9 o [] = []:=by simp only [X9]
@[go_sem] theorem an4 {v:V} {cs:List V}:X9 o (v :: cs) = v.shut o :: X9 o cs:=by simp only [X9]
@[go_sem] theorem an3 {v:Value}:V.shutOk o B (.sc v) = True:=by simp only [V.shutOk]
@[go_sem] theorem an2 :V.shutOk o B .nn = True:=by simp only [V.shutOk]
@[go_sem] theorem an1 :V.shutOk o B .top = True:=by simp only [V.shutOk]
@[go_sem] theorem an0 {k:Nat} {xs:List V}:V.shutOk o B (.sl k xs) = True:=by simp only [V.shutOk]
@[go_sem] theorem anZ {cs:List V} {k:Nat}:V.shutOk o B (.ro cs k) = True:=by simp only [V.shutOk]
@[go_sem] theorem anY {a off len:Nat}:V.shutOk o B (.hd a off len) = (okB B a∧alW o B off len (o a)):=by simp only [V.shutOk]
@[go_sem] theorem anX {a off:Nat}:V.shutOk o B (.ptr a off) = (okB B a∧∃ wr cs,o a = some (.box wr cs)∧Qw cs):=by simp only [V.shutOk]
@[go_sem] theorem anW {cs:List V}:V.shutOk o B (.agg cs) = JN o B cs:=by simp only [V.shutOk]
@[go_sem] theorem anV {cs:List V}:V.shutOk o B (.tup cs) = JN o B cs:=by simp only [V.shutOk]
@[go_sem] theorem anU {f:FK} {cs:List V}:V.shutOk o B (.clo f cs) = JN o B cs:=by simp only [V.shutOk]
@[go_sem] theorem anT:JN o B [] = True:=by simp only [JN]
@[go_sem] theorem anS {v:V} {cs:List V}:JN o B (v :: cs) = (v.shutOk o B∧JN o B cs):=by simp only [JN]
@[go_sem] theorem anR {v:Value}:V.closed (.sc v) = True:=by simp only [V.closed]
@[go_sem] theorem anQ :V.closed .nn = True:=by simp only [V.closed]
@[go_sem] theorem anP :V.closed .top = True:=by simp only [V.closed]
@[go_sem] theorem anO {k:Nat} {xs:List V}:V.closed (.sl k xs) = True:=by simp only [V.closed]
@[go_sem] theorem anN {cs:List V} {k:Nat}:V.closed (.ro cs k) = True:=by simp only [V.closed]
@[go_sem] theorem anM {cs:List V}:V.closed (.agg cs) = Qw cs:=by simp only [V.closed]
@[go_sem] theorem anL {cs:List V}:V.closed (.tup cs) = Qw cs:=by simp only [V.closed]
@[go_sem] theorem anK {f:FK} {cs:List V}:V.closed (.clo f cs) = Qw cs:=by simp only [V.closed]
@[go_sem] theorem anJ:Qw [] = True:=by simp only [Qw]
@[go_sem] theorem anI {v:V} {cs:List V}:Qw (v :: cs) = (v.closed∧Qw cs):=by simp only [Qw]
@[go_sem] theorem anH {v:Value}:V.cells (.sc v) = [.sc v]:=by simp only [V.cells]
@[go_sem] theorem anG {k:Nat} {xs:List V}:V.cells (.sl k xs) = [.sl k xs]:=by simp only [V.cells]
@[go_sem] theorem anF {a off len:Nat}:V.cells (.hd a off len) = [.hd a off len]:=by simp only [V.cells]
@[go_sem] theorem anE {a off:Nat}:V.cells (.ptr a off) = [.ptr a off]:=by simp only [V.cells]
@[go_sem] theorem anD {cs:List V} {k:Nat}:V.cells (.ro cs k) = [.ro cs k]:=by simp only [V.cells]
@[go_sem] theorem anC {cs:List V}:V.cells (.agg cs) = cs:=by simp only [V.cells]
@[go_sem] theorem anB {f:FK} {cs:List V}:V.cells (.clo f cs) = [.clo f cs]:=by simp only [V.cells]
@[go_sem] theorem anA :V.cells .nn = [.nn]:=by simp only [V.cells]
@[go_sem] theorem anz:Wc [] [] [] = some true:=by simp only [Wc]
@[go_sem] theorem anx {ks:List Nat} {k k':IntKind} {a b:Int} {xs ys:List V}:Wc (0 :: ks) (.sc (.int k a) :: xs) (.sc (.int k' b) :: ys) = if k = k' then (Wc ks xs ys).map ((a == b) && ·) else none:=by simp only [Wc]
@[go_sem] theorem anw {ks:List Nat} {a b:List UInt8} {xs ys:List V}:Wc (1 :: ks) (.sc (.string ⟨a.toArray⟩) :: xs) (.sc (.string ⟨b.toArray⟩) :: ys) = (Wc ks xs ys).map ((a == b) && ·):=by simp only [Wc];congr;funext t;congr 1;rw [Bool.eq_iff_iff];simp;show (a.toArray == b.toArray) = true↔a = b;simp
@[go_sem] theorem anv {ks:List Nat} {a b:Bool} {xs ys:List V}:Wc (2 :: ks) (.sc (.bool a) :: xs) (.sc (.bool b) :: ys) = (Wc ks xs ys).map ((a == b) && ·):=by simp only [Wc]
@[go_sem] theorem anu {l:List UInt8}:(l == l) = true:=by simp
@[go_sem] theorem ant {n:Int}:(n == n) = true:=by simp
@[go_sem] theorem ans {k:IntKind}:(k == k) = true:=by cases k<;>rfl
@[go_sem] theorem anr {f:FuncId} {cap acts:List V}:jS Γ b r s d (.clo (.m f) cap) acts K = awC Γ b r s d f (cap++acts) K:=propext Iff.rfl
@[go_sem] theorem anq {f:FuncId} {cap acts:List V}:Wl Γ A W b s d (.clo (.m f) cap) acts J = JB Γ A W b s d f (cap++acts) J:=propext Iff.rfl
@[go_sem] theorem anp {off len s:Nat} {ys:List V} {wr:Bool} {s1:Nat} {xs:List V}:hdC o br B off len s ys (some (.buf wr s1 xs)) = (s1 = s∧ys = (xs.drop off).take len):=rfl
@[go_sem] theorem ano {off len s:Nat} {ys:List V} {wr:Bool} {s1:Nat} {xs:List V}:hdC o br B off len s ys (some (.obuf wr s1 xs)) = (s1 = s∧YA o br B ((xs.drop off).take len) ys∧ntL ys∧Qw ys):=rfl
@[go_sem] theorem ann {off len s:Nat} {wr:Bool} {xs:List V}:amA o off len (some (.obuf wr s xs)) = .sl s (wP o ((xs.drop off).take len)):=rfl
@[go_sem] theorem anm {off len s:Nat} {wr:Bool} {xs:List V}:alW o B off len (some (.buf wr s xs)) = True:=rfl
@[go_sem] theorem anl {off len s:Nat} {wr:Bool} {xs:List V}:alW o B off len (some (.obuf wr s xs)) = (yE o B ((xs.drop off).take len)∧ntL (wP o ((xs.drop off).take len))):=rfl
@[go_sem] theorem ank {l:List Nat} {k:Nat→AM E}:awS Γ b r s d K (.anyN l k) = (l≠[]∧∀ i∈l,awS Γ b r s d K (k i)):=propext Iff.rfl
@[go_sem] theorem anj {ag:Bool} {ks:List Nat} {k:V} {i:Nat}:Ut ag ks k [] i = some none:=rfl
@[go_sem] theorem ani {ks:List Nat} {u v:Value}:abq false ks (.sc u) (.sc v) = Wc ks [.sc u] [.sc v]:=rfl
@[go_sem] theorem anh {ks:List Nat} {u v:List V}:abq true ks (.agg u) (.agg v) = Wc ks u v:=rfl
@[go_sem] theorem ang {a:Nat}:V.cells (.mp a) = [.mp a]:=by simp only [V.cells]
@[go_sem] theorem anf {a k:Nat}:conv o br B (.mp a) (.mp k) = (br[k]? = some a):=by simp only [conv]
end
attribute [go_sem] KK sem AM.int AM.str AM.slice AM.sliceK alJ AM.cellsAt alZ St.eff St.put St.ev vh V.ofV ZC.v wO alV splice afl V.mk vu V.small j9 ahC vQ af3 Int.cast_ofNat_Int V.und
end Av
end
section
namespace Av
open Go
theorem ag0 {α:Type} {p:α→Prop} {a:α} {l:List α}:(∀ x∈a :: l,p x)↔(p a∧∀ x∈l,p x):=by simp
theorem ain {α:Type} {p:α→Prop}:(∀ x∈([]:List α),p x)↔True:=by simp
theorem zsd {p:Prop} (h:p:=by first|assumption|omega|(simp;done)):p:=h
theorem zlo {p:Prop} (h:p:=by simp only [List.length_append,List.length_cons,List.length_nil,List.length_map,Nat.reducePow,Nat.reduceAdd];omega):p:=h
theorem zms {α:Type} {a:α}:a∈[a]:=List.mem_singleton_self _
theorem znf {p:Prop} (h:p:=by first|(exfalso;simp only [List.length_map] at hc;omega)|(exfalso;omega)):p:=h
theorem znz:(∀ {p:Prop} [Decidable p],(decide p = true) = p)∧(∀ {p:Prop} [Decidable p],(decide p = false) = ¬ p)∧(∀ {α:Type} [BEq α] [LawfulBEq α] {a b:α},((a == b) = true) = (a = b)) ∧
    (∀ {α:Type} [BEq α] [LawfulBEq α] {a b:α},((a == b) = false) = ¬ (a = b))∧(∀ {α:Type} {a b:α},(a≠b) = ¬ (a = b))∧(∀ {b:Bool},((!b) = true) = (b = false))∧(∀ {b:Bool},((!b) = false) = (b = true)) :=
  ⟨propext decide_eq_true_iff,propext decide_eq_false_iff_not,propext beq_iff_eq,propext beq_eq_false_iff_ne,rfl,Bool.not_eq_true' _,Bool.not_eq_false' _⟩
structure EvB (Γ:Env) (f:FuncId) (args:List V) (res:V) (B:Option (List Nat)):Prop where
  ev:Ev Γ f args [] res []
  cl:res.closed
  sh:(B = none∧res.noSl)∨B = some []
theorem EvN.b {Γ:Env} {f:FuncId} {args:List V} {res:V} (h:EvN Γ f args res):EvB Γ f args res none:=⟨h.1,h.2.1,.inl ⟨rfl,h.2.2⟩⟩
theorem EvC.b {Γ:Env} {f:FuncId} {args:List V} {res:V} (h:EvC Γ f args res):EvB Γ f args res (some []):=⟨h.1,h.2,.inr rfl⟩
section
variable {Γ:Env} {A W:Nat→Bool} {b:Nat} {r:List AO} {s:St} {d:Option Nat} {f:FuncId} {acts:List V} {res:V} {J K:St→Prop} {B:Option (List Nat)}
theorem am1 (h:EvB Γ f (X9 s.o acts) res B) (hc:JN s.o B acts) (hk:V7 Γ (b + KK) r { t:=(s.put d res).t,o:=s.o,n:=s.n } K):awC Γ b r s d f acts K:=by
  obtain ⟨h1,h2,⟨rfl,h3⟩|rfl⟩:=h
  · exact amX hc ⟨h1,h2,h3⟩ hk
  · exact am0 hc ⟨h1,h2⟩ hk
theorem amu (h:EvB Γ f (X9 (Xj A s.o) acts) res B) (hc:JN (Xj A s.o) B acts) (hk:J { t:=(s.put d res).t,o:=s.o,n:=s.n }):JB Γ A W b s d f acts J:=by
  obtain ⟨h1,h2,⟨rfl,h3⟩|rfl⟩:=h
  · exact amr hc ⟨h1,h2,h3⟩ hk
  · exact amt hc ⟨h1,h2⟩ hk
def ajW (Γ:Env) (b:Nat) (r:List AO) (s:St) (d:Option Nat) (f:FuncId) (acts args:List V) (okf:Option (List Nat)→Prop) (K:St→Prop):Prop :=
  args = X9 s.o acts→okf = (fun B=>JN s.o B acts)→awC Γ b r s d f acts K
def aiI (Γ:Env) (A W:Nat→Bool) (b:Nat) (s:St) (d:Option Nat) (f:FuncId) (acts args:List V) (okf:Option (List Nat)→Prop) (J:St→Prop):Prop :=
  args = X9 (Xj A s.o) acts→okf = (fun B=>JN (Xj A s.o) B acts)→JB Γ A W b s d f acts J
@[go_sem] theorem am9:awC Γ b r s d f acts K = ajW Γ b r s d f acts (X9 s.o acts) (fun B=>JN s.o B acts) K:=propext ⟨fun h _ _=>h,fun h=>h rfl rfl⟩
@[go_sem] theorem am3:JB Γ A W b s d f acts J = aiI Γ A W b s d f acts (X9 (Xj A s.o) acts) (fun B=>JN (Xj A s.o) B acts) J:=propext ⟨fun h _ _=>h,fun h=>h rfl rfl⟩
theorem QX {args:List V} {okf:Option (List Nat)→Prop} (h:EvB Γ f args res B) (hc:okf B) (hk:V7 Γ (b + KK) r { t:=(s.put d res).t,o:=s.o,n:=s.n } K):ajW Γ b r s d f acts args okf K:=by
  rintro rfl rfl;exact am1 h hc hk
theorem Jz {args:List V} {okf:Option (List Nat)→Prop} (h:EvB Γ f args res B) (hc:okf B) (hk:J { t:=(s.put d res).t,o:=s.o,n:=s.n }):aiI Γ A W b s d f acts args okf J:=by
  rintro rfl rfl;exact amu h hc hk
end
mutual
theorem aha (o:Nat→Option Ob):∀ v:V,v.closed→v.shut o = v
  | .top,_=>by simp only [V.shut]
  | .sc _,_=>by simp only [V.shut]
  | .nn,_=>by simp only [V.shut]
  | .sl _ _,_=>by simp only [V.shut]
  | .hd _ _ _,h=>h.elim
  | .ptr _ _,h=>h.elim
  | .ept _ _ _,h=>h.elim
  | .mp _,h=>h.elim
  | .ro _ _,_=>by simp only [V.shut]
  | .agg cs,h=>by simp only [V.shut];rw [WX o cs h]
  | .tup cs,h=>by simp only [V.shut];rw [WX o cs h]
  | .clo _ cs,h=>by simp only [V.shut];rw [WX o cs h]
theorem WX (o:Nat→Option Ob):∀ cs:List V,Qw cs→X9 o cs = cs
  | [],_=>by simp only [X9]
  | v :: r,h=>by simp only [X9];rw [aha o v h.1,WX o r h.2]
end
mutual
theorem afv (o:Nat→Option Ob) (B:Option (List Nat)):∀ v:V,v.closed→v.shutOk o B
  | .top,_=>by simp only [V.shutOk]
  | .sc _,_=>by simp only [V.shutOk]
  | .nn,_=>by simp only [V.shutOk]
  | .sl _ _,_=>by simp only [V.shutOk]
  | .hd _ _ _,h=>h.elim
  | .ptr _ _,h=>h.elim
  | .ept _ _ _,h=>h.elim
  | .mp _,h=>h.elim
  | .ro _ _,_=>by simp only [V.shutOk]
  | .agg cs,h=>by simp only [V.shutOk];exact XG o B cs h
  | .tup cs,h=>by simp only [V.shutOk];exact XG o B cs h
  | .clo _ cs,h=>by simp only [V.shutOk];exact XG o B cs h
theorem XG (o:Nat→Option Ob) (B:Option (List Nat)):∀ cs:List V,Qw cs→JN o B cs
  | [],_=>by simp only [JN]
  | v :: r,h=>by simp only [JN];exact ⟨afv o B v h.1,XG o B r h.2⟩
end
@[go_sem] def mv (d x:Nat):AO:=⟨some d,.mov (.t x),none⟩
@[go_sem] def mc (d:Nat) (v:V):AO:=⟨some d,.mov (.c v),none⟩
@[go_sem] def mg (d x g:Nat) (q:Bool):AO:=⟨some d,.mov (.t x),some (g,q)⟩
@[go_sem] def ld (d s x:Nat):AO:=⟨some d,.load false s (.t x),none⟩
@[go_sem] def ia (d s x i:Nat):AO:=⟨some d,.iaddr s (.t x) (.t i),none⟩
@[go_sem] def fa (d o x:Nat):AO:=⟨some d,.faddr o (.t x),none⟩
@[go_sem] def nk (d x:Nat):AO:=⟨some d,.nilck (.t x),none⟩
@[go_sem] def ex (d x i:Nat):AO:=⟨some d,.ext (.t x) i,none⟩
@[go_sem] def ln (d x:Nat):AO:=⟨some d,.lenL (.t x),none⟩
@[go_sem] def bn (d:Nat) (op:BinOp) (x y:Nat):AO:=⟨some d,.bin op (.t x) (.t y),none⟩
@[go_sem] def bc (d:Nat) (op:BinOp) (x:Nat) (v:V):AO:=⟨some d,.bin op (.t x) (.c v),none⟩
@[go_sem] def cl (d f:Nat) (ts:List Nat):AO:=⟨some d,.call f (ts.map .t),none⟩
@[go_sem] def xo (d:Nat) (op:AOp):AO:=⟨some d,op,none⟩
@[go_sem] def xg (d:Nat) (op:AOp) (g:Nat) (q:Bool):AO:=⟨some d,op,some (g,q)⟩
@[go_sem] def xs (s a x:Nat):AO:=⟨none,.store s (.t a) (.t x),none⟩
attribute [go_sem] ag0 ain V.ren y0 Jp V.lt ltL Ob.weak KK
attribute [go_sem_proc] Int.reduceAdd Int.reduceBEq Int.reduceEq Int.reduceLE Int.reduceLT Int.reduceToNat Nat.reduceAdd Nat.reduceEqDiff Nat.reduceLT Nat.reduceLeDiff Nat.reduceMul Nat.reduceSub reduceCtorEq reduceIte
end Av
end
