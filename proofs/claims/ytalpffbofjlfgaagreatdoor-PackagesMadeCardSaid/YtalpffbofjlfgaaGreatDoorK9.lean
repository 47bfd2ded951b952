/- Strings as lists of bytes, lists of integers: what the operations do to them. -/
import Derived.Test.YtalpffbofjlfgaaGreatDoorK8
import Derived.Laws.Strings
set_option linter.unusedVariables false
set_option linter.unusedSimpArgs false
section
namespace Av
open Go
theorem ad1 (l:List UInt8):(⟨l.toArray⟩:ByteArray).size = l.length:=by simp [ByteArray.size]
theorem aoa (a b:List UInt8):(⟨a.toArray⟩:ByteArray)++⟨b.toArray⟩ = ⟨(a++b).toArray⟩:=by
  apply ByteArray.ext
  simp
theorem vY (l:List UInt8):(⟨l.toArray⟩:ByteArray).toList = l:=by
  exact ByteArray.toList_mk l
theorem an9 (l:List UInt8) (a b:Nat):(⟨l.toArray⟩:ByteArray).extract a b = ⟨((l.drop a).take (b - a)).toArray⟩:=by
  apply ByteArray.ext
  simp [List.extract_eq_take_drop]
theorem aoQ (a b:List UInt8):adr .add ⟨a.toArray⟩ ⟨b.toArray⟩ = .asrt (a.length + b.length < 2 ^ 62) (.ret { v:=V.str (a++b) }):=by
  simp only [adr,ad1,aoa]
theorem aoP (a b:List UInt8):adr .eql ⟨a.toArray⟩ ⟨b.toArray⟩ = .ret { v:=.bool (a == b) }:=by
  simp only [adr,vY]
theorem aoK (a b:List UInt8):adr .neq ⟨a.toArray⟩ ⟨b.toArray⟩ = .ret { v:=.bool (!(a == b)) }:=by
  simp only [adr,vY]
theorem aoL (a b:List UInt8):adr .lss ⟨a.toArray⟩ ⟨b.toArray⟩ = .ret { v:=.bool (Op.bytesLess a b) }:=by
  simp only [adr,vY]
theorem aoM (a b:List UInt8):adr .leq ⟨a.toArray⟩ ⟨b.toArray⟩ = .ret { v:=.bool (Op.bytesLess a b || a == b) }:=by
  simp only [adr,vY]
theorem aoN (a b:List UInt8):adr .gtr ⟨a.toArray⟩ ⟨b.toArray⟩ = .ret { v:=.bool (!(Op.bytesLess a b || a == b)) }:=by
  simp only [adr,vY]
theorem aoO (a b:List UInt8):adr .geq ⟨a.toArray⟩ ⟨b.toArray⟩ = .ret { v:=.bool (!(Op.bytesLess a b)) }:=by
  simp only [adr,vY]
theorem akG {l:List V} (h:∀ v∈l,v.closed):Qn l:=by
  induction l with
  | nil=>trivial
  | cons v l ih=>exact ⟨h v (by simp),ih fun u hu=>h u (by simp [hu])⟩
end Av
end
section
namespace Av
open Go
theorem Yy {α:Type} {l:List α} {k:Nat} {y:α} {r:List α} (h:l.drop k = y :: r):k < l.length∧l[k]? = some y∧l.drop (k + 1) = r:=by
  have hk:k < l.length:=by
    rcases Nat.lt_or_ge k l.length with h'|h'
    · exact h'
    · rw [List.drop_of_length_le h'] at h;cases h
  rw [List.drop_eq_getElem_cons hk] at h
  simp only [List.cons.injEq] at h
  exact ⟨hk,by rw [List.getElem?_eq_getElem hk,h.1],h.2⟩
theorem Xx {α:Type} {l:List α} {k:Nat} (h:l.drop k = []):l.length≤k:=by simpa using h
theorem Jq {k:Nat} (h:k < 2 ^ 62):IntKind.i64.wrap ((k:Int) + 1) = ((k + 1:Nat):Int):=by
  rw [WW (by omega) (by omega)];omega
def J5:List (Nat×V)→Nat→V→V
  | [],_,v=>v
  | (j,u) :: r,k,v=>if k = j then u else J5 r k v
def ovT (ts:List (Nat×V)):List (Nat×V)→List (Nat×V)
  | []=>[]
  | (k,v) :: r=>(k,J5 ts k v) :: ovT ts r
def ltO (n:Nat) (o:Nat→Option Ob):Prop:=∀ a x,o a = some x→a < n∧x.lt n
theorem Vk {n:Nat} {o:Nat→Option Ob} {a:Nat} {x:Ob} (h1:a < n) (h2:x.lt n) (h:ltO n o):ltO n (upd o a (some x)):=by
  intro b y hb
  by_cases e:b = a
  · subst e;rw [QZ] at hb;cases hb;exact ⟨h1,h2⟩
  · rw [JB _ _ e] at hb;exact h b y hb
theorem We {n:Nat}:ltO n (fun _=>none):=by intro a x h;cases h
def ltT (n:Nat) (l:List (Nat×V)):Prop:=∀ p∈l,p.2.lt n
theorem Vj {n:Nat}:ltT n []:=by intro p hp;cases hp
theorem Wd {n k:Nat} {v:V} {r:List (Nat×V)} (h1:v.lt n) (h:ltT n r):ltT n ((k,v) :: r):=by
  intro p hp
  rcases List.mem_cons.1 hp with rfl|hp
  · exact h1
  · exact h p hp
def eqT (t:Nat→V) (τ:Nat→Nat) (l:List (Nat×V)):Prop:=∀ p∈l,t p.1 = p.2.ren τ
theorem JW {t:Nat→V} {τ:Nat→Nat}:eqT t τ []:=by intro p hp;cases hp
theorem JA {t:Nat→V} {τ:Nat→Nat} {k:Nat} {v:V} {r:List (Nat×V)}:eqT t τ ((k,v) :: r)↔t k = v.ren τ∧eqT t τ r:=by
  constructor
  · intro h;exact ⟨h (k,v) (by simp),fun p hp=>h p (by simp [hp])⟩
  · rintro ⟨h1,h2⟩ p hp
    rcases List.mem_cons.1 hp with rfl|hp
    · exact h1
    · exact h2 p hp
def okN (n m:Nat) (rn:List (Nat×Nat)):Prop:=(∀ p∈rn,n≤p.2∧m≤p.1)∧(rn.map (·.2)).Nodup
theorem wm:∀ (rn:List (Nat×Nat)) (a:Nat),(QO rn a = a∧∀ p∈rn,p.1≠a)∨(a,QO rn a)∈rn
  | [],a=>.inl ⟨rfl,by simp⟩
  | (k,v) :: r,a=>by
    simp only [QO]
    split
    · rename_i h;subst h;exact .inr (by simp)
    · rename_i h
      rcases wm r a with ⟨h1,h2⟩|h'
      · refine .inl ⟨h1,fun p hp=>?_⟩
        rcases List.mem_cons.1 hp with rfl|hp
        · exact fun e=>h e.symm
        · exact h2 p hp
      · exact .inr (by simp [h'])
theorem alU {n m:Nat} {rn:List (Nat×Nat)} (h:okN n m rn) {a b:Nat} (ha:a < n) (hb:b < n) (e:QO rn a = QO rn b):a = b:=by
  rcases wm rn a with ⟨h1,_⟩|h1<;>rcases wm rn b with ⟨h2,_⟩|h2
  · omega
  · have:=(h.1 _ h2).1;simp only at this;omega
  · have:=(h.1 _ h1).1;simp only at this;omega
  · have:=wj h.2 h1 h2 e
    simpa using congrArg Prod.fst this
theorem alV {n m:Nat} {rn:List (Nat×Nat)} (h:okN n m rn) {k:Nat} (hk:k < m):QO rn k = k:=by
  rcases wm rn k with ⟨h1,_⟩|h1
  · exact h1
  · have:=(h.1 _ h1).2;simp only at this;omega
theorem ak0 (τ:Nat→Nat) (n:Nat) (x:Ob) (h:x.lt n):(x.ren τ).weak τ n x:=by
  induction x with
  | dead=>trivial
  | typ T x ih=>exact ⟨rfl,ih h⟩
  | box wr cs=>exact ⟨fun h=>h,rfl,h⟩
  | buf wr s xs=>exact ⟨fun h=>h,rfl,rfl⟩
  | obuf wr s xs=>exact ⟨fun h=>h,rfl,rfl,h⟩
  | map ks vs c0=>exact ⟨rfl,rfl,rfl,h⟩
  | iter a since seen last=>exact ⟨rfl,h,rfl,rfl,rfl⟩
theorem anE {m n:Nat} {s:St} {l:List (Nat×V)} {o:Nat→Option Ob} (rn:List (Nat×Nat)) (hn:okN n m rn) (hm:m≤n) (hl:ltT n l) (hlo:ltO n o)
    (ht:eqT s.t (QO rn) l) (ho:∀ a,a < n→s.o (QO rn a) = (o a).map (Ob.ren (QO rn))):afe m (QO rn) s { t:=yu l,o:=o,n:=n }:=by
  refine ⟨fun i=>?_,fun a y h=>?_,fun a b ha hb e=>?_,fun k hk=>alV hn hk,hm⟩
  · rcases abz l i with h|h
    · exact .inl h
    · exact .inr ⟨ht _ h,hl _ h⟩
  · obtain ⟨h1,h2⟩:=hlo a y h
    refine ⟨h1,_,?_,ak0 (QO rn) n y h2⟩
    have:=ho a h1
    simp only at h
    rw [h] at this
    exact this
  · obtain ⟨x,hx⟩:=Option.ne_none_iff_exists'.1 ha
    obtain ⟨y,hy⟩:=Option.ne_none_iff_exists'.1 hb
    exact alU hn (hlo a x hx).1 (hlo b y hy).1 e
section
variable {C:Ctx} {nt:Nat} {K:St→Prop} {E:Nat→St→Prop} {R:St→Prop}
theorem apa:∀ (k:Nat) (v:V),SizeOf.sizeOf v≤k→v.ren (fun a=>a) = v:=by
  intro k
  induction k with
  | zero=>intro v h;cases v<;>simp at h
  | succ k ih =>
    intro v h
    have list:∀ cs:List V,SizeOf.sizeOf cs≤k→qU (fun a=>a) cs = cs:=by
      intro cs
      induction cs with
      | nil=>intro _;rfl
      | cons u r ihr=>intro hs;simp at hs;simp only [qU];rw [ih u (by omega),ihr (by omega)]
    cases v<;>simp only [V.ren]<;>simp at h
    all_goals (rw [list _ (by omega)])
theorem qV (v:V):v.ren (fun a=>a) = v:=apa _ v (Nat.le_refl _)
theorem apU (cs:List V):qU (fun a=>a) cs = cs:=by induction cs with
  | nil=>rfl
  | cons v r ih=>simp only [qU,qV,ih]
theorem apT (x:Ob):x.ren (fun a=>a) = x:=by induction x<;>simp_all [Ob.ren,apU]
theorem aex:QO [] = fun a=>a:=by funext a;rfl
theorem Xf {ks:List Nat} {x:AC} {base:List (Nat×V)} {o0:Nat→Option Ob} {n0:Nat} {ι:Type} (good:ι→Prop) (ts:ι→List (Nat×V)) (msr:ι→Nat) (i0:ι)
    (hm:C.m≤n0) (h0:good i0) (hlo:ltO n0 o0) (hl:∀ i,good i→ltT n0 (ovT (ts i) base)) (ht:eqT (yu base) (fun a=>a) (ovT (ts i0) base))
    (h:∀ i,good i→∀ K':St→Prop,(∀ s' i',eqT s'.t (fun a=>a) (ovT (ts i') base)→good i'→msr i' < msr i→(∀ a,a < n0→s'.o a = o0 a)→K' s') →
      AWp C nt x { t:=yu (ovT (ts i) base),o:=o0,n:=n0 } K' E R):AWp C nt (X1 ks x) { t:=yu base,o:=o0,n:=n0 } K E R:=by
  have hn:okN n0 C.m []:=⟨by simp,by simp⟩
  have ren0:∀ oo:Nat→Option Ob,∀ a,(oo a).map (Ob.ren (QO [])) = oo a:=by
    intro oo a
    rw [aex]
    cases oo a with
    | none=>rfl
    | some x=>simp [apT]
  refine JR good (fun i=>{ t:=yu (ovT (ts i) base),o:=o0,n:=n0 }) msr i0 h0 (QO []) (anE [] hn hm (hl i0 h0) hlo (by rw [aex];exact ht) (fun a _=>(ren0 o0 a).symm)) ?_
  intro i hi K' hK
  exact h i hi K' fun s' i' h1 h2 h3 h4=>hK s' i' (QO []) h2 h3 (anE [] hn hm (hl i' h2) hlo (by rw [aex];exact h1) (fun a ha=>(h4 a ha).trans (ren0 o0 a).symm))
end
end Av
end
section
namespace Av
open Go
def awR (A W:Nat→Bool) (b:Nat) (s:St) (d:Option Nat) (J:St→Prop) (m:AM E):Prop:=m.wp (Vg A s.o) fun e=>okW W b e.os∧J (s.eff d e)
def YT (A W:Nat→Bool) (b:Nat) (s:St) (d:Option Nat) (J:St→Prop) (k:Ob→AM E) (x:Option Ob):Prop :=
  match x with
  | some ob=>awR A W b s d J (k ob)
  | none=>False
def Vq (Γ:Env) (A W:Nat→Bool) (b:Nat) (s:St) (x:AO) (J:St→Prop):Prop:=awG Γ A W b s x J
def Vp (Γ:Env) (fz:Nat→Bool) (b0:Nat) (K:St→Prop) (t:OP) (s:St):Prop:=awP Γ fz b0 K t s
def ael (Γ:Env) (fz:Nat→Bool) (b0:Nat) (K:St→Prop) (t:OP) (s:St):Prop:=aoT Γ fz b0 K t s
def VZ (Γ:Env) (A W:Nat→Bool) (b:Nat) (s:St) (x:AO) (g:Nat) (want:Bool) (v:V) (J:St→Prop):Prop :=
  match v with
  | .sc (.bool q)=>(q = want→Vq Γ A W b (s.put (some g) (.bool want)) { d:=x.d,op:=x.op } J)∧(q = !want→J ((s.put (some g) (.bool !want)).put x.d V.und))
  | .tup []=>J (s.put x.d V.und)
  | _=>False
def YQ (Γ:Env) (A W:Nat→Bool) (b:Nat) (s:St) (d:Option Nat) (v:V) (acts:List V) (J:St→Prop):Prop :=
  match v with
  | .clo f cap=>Q9 Γ A W b s d f.f (f.args acts cap) J
  | _=>False
section
variable {Γ:Env} {A W:Nat→Bool} {fz:Nat→Bool} {b b0:Nat} {s:St} {d:Option Nat} {J K:St→Prop}
theorem ale:Vp Γ fz b0 K .done s↔K s:=by simp only [Vp,awP]
theorem amH {j:Nat} {X:Bool} {acl:List Nat} {x:AO} {t:OP}:Vp Γ fz b0 K (.one j X acl x t) s↔Vq Γ (rA X acl fz b0) (rW X acl fz b0) (b0 + j * KK) s x (Vp Γ fz b0 K t):=by
  simp only [Vp,awP,Vq];exact Iff.rfl
theorem aoe {j:Nat} {X:Bool} {acl:List Nat} {x:AO} {t r:OP}:Vp Γ fz b0 K (.or j X acl x t r) s↔Vq Γ (rA X acl fz b0) (rW X acl fz b0) (b0 + j * KK) s x (Vp Γ fz b0 K t)∧ael Γ fz b0 K r s:=by
  simp only [Vp,ael,awP,Vq];exact Iff.rfl
theorem amI {j:Nat} {X:Bool} {acl:List Nat} {x:AO} {t r:OP}:ael Γ fz b0 K (.or j X acl x t r) s↔Vq Γ (rA X acl fz b0) (rW X acl fz b0) (b0 + j * KK) s x (Vp Γ fz b0 K t)∧ael Γ fz b0 K r s:=by
  simp only [Vp,ael,aoT,Vq];exact Iff.rfl
theorem aj0:ael Γ fz b0 K .done s↔True:=by simp only [ael,aoT]
theorem aj2 {x:Opd} {as:List Opd}:Vq Γ A W b s ⟨d,.callv x as,none⟩ J↔YQ Γ A W b s d (s.ev x) (as.map s.ev) J:=by
  simp only [Vq,awG,amw,YQ]
  cases s.ev x<;>rfl
theorem ao8 {aop:AOp} {g:Nat} {want:Bool}:Vq Γ A W b s ⟨d,aop,some (g,want)⟩ J↔VZ Γ A W b s ⟨d,aop,none⟩ g want (s.t g) J:=by
  simp only [Vq,awG]
  constructor
  · rintro ⟨q,hq,h1,h2⟩
    unfold VZ
    rcases q with _|q
    · have hq:s.t g = .tup []:=hq
      rw [hq]
      exact h2 (by simp)
    · have hq:s.t g = .bool q:=hq
      rw [hq]
      refine ⟨fun e=>?_,fun e=>?_⟩
      · rw [y8 (by rw [hq,e])];exact h1 (by rw [e])
      · rw [y8 (by rw [hq,e])]
        exact h2 (by rw [e];cases want<;>simp)
  · intro h
    unfold VZ at h
    split at h
    · rename_i q hq
      refine ⟨some q,hq,fun e=>?_,fun e=>?_⟩
      · cases e
        have:=h.1 rfl
        rw [y8 hq] at this
        exact this
      · have e':q = !want:=by cases q<;>cases want<;>simp_all
        have:=h.2 e'
        rw [y8 (by rw [hq,e'])] at this
        exact this
    · rename_i hq
      exact ⟨none,hq,(fun e=>by cases e),fun _=>h⟩
    · exact h.elim
theorem apB {a:Nat} {k:Ob→AM E}:awR A W b s d J (.rd a k)↔YT A W b s d J k (Vg A s.o a):=by
  unfold YT
  cases h:Vg A s.o a with
  | none=>simp [awR,AM.wp,h]
  | some ob=>simp [awR,AM.wp,h]
theorem aj3 (A:Nat→Bool) (o:Nat→Option Ob) (a:Nat):Vg A o a = if A a = true then o a else none:=rfl
theorem aoo:okW W b []↔True:=by simp [okW]
theorem am2 {q:Nat×Ob} {r:List (Nat×Ob)}:okW W b (q :: r)↔(W q.1 || (decide (b≤q.1) && decide (q.1 < b + KK))) = true∧okW W b r:=by simp [okW]
theorem apD {f:FuncId} {acts:List V} {res:V} (hc:JU (Vg A s.o) none acts) (h:EvN Γ f (Wy (Vg A s.o) acts) res) (hk:J { t:=(s.put d res).t,o:=s.o,n:=s.n }):Q9 Γ A W b s d f acts J :=
  aoH h.1 rfl hc h.2.1 h.2.2 hk
theorem apF {f:FuncId} {acts:List V} {res:V} (hc:JU (Vg A s.o) (some []) acts) (h:EvC Γ f (Wy (Vg A s.o) acts) res) (hk:J { t:=(s.put d res).t,o:=s.o,n:=s.n }):Q9 Γ A W b s d f acts J :=
  aoI h.1 rfl hc h.2 hk
end
section
variable {C:Ctx} {nt:Nat} {s:St} {K:St→Prop} {E:Nat→St→Prop} {R:St→Prop}
theorem Ql {ks L:List Nat} {ot:OT} {p:OP} {ops:List AO} {ahead:List (List Nat)} {y:AC} (N:Nat) (fz:Nat→Bool) (hN:ops.length = N) (hc:okR ops ahead L ot = true) (hp:Ww (ris ops ahead L) ot = p)
    (h:∀ K':St→Prop,(∀ s',AWp C nt y s' K E R→K' s')→Vp C.env fz s.n (fun s'=>K' ((s'.wn (s.n + N * KK)).keep ks)) p s):AWp C nt (Qo ks (ach L ot p ops ahead) y) s K E R:=by
  subst hN
  exact Qc (ajL fz hc hp (h _ fun _ h=>h))
theorem Qm {L:List Nat} {ot:OT} {p:OP} {ops:List AO} {ahead:List (List Nat)} (N:Nat) (fz:Nat→Bool) (hN:ops.length = N) (hc:okR ops ahead L ot = true) (hp:Ww (ris ops ahead L) ot = p)
    (h:∀ K':St→Prop,(∀ s',K s'→K' s')→Vp C.env fz s.n (fun s'=>K' (s'.wn (s.n + N * KK))) p s):AWp C nt (ach L ot p ops ahead) s K E R:=by
  subst hN
  exact ajL fz hc hp (h _ fun _ h=>h)
end
end Av
end
section
set_option linter.unusedVariables false
namespace Av
open Go
def apN (o:Nat→Option Ob) (off len:Nat):Option Ob→V
  | some (.buf _ s xs)=>.sl s ((xs.drop off).take len)
  | some (.obuf _ s xs)=>.sl s (w5 o ((xs.drop off).take len))
  | _=>.top
def hdC (o:Nat→Option Ob) (br:List Nat) (B:Option (List Nat)) (off len s:Nat) (ys:List V):Option Ob→Prop
  | some (.buf _ s1 xs)=>s1 = s∧ys = (xs.drop off).take len
  | some (.obuf _ s1 xs)=>s1 = s∧X2 o br B ((xs.drop off).take len) ys∧ntL ys∧Qn ys
  | _=>False
theorem apu (o:Nat→Option Ob) (br:List Nat) (B:Option (List Nat)) (a off len s:Nat) (ys:List V):conv o br B (.hd a off len) (.sl s ys)↔okB B a∧a ∉ br∧hdC o br B off len s ys (o a):=by
  rw [akw];unfold hdC;constructor
  · rintro ⟨h1,h2,⟨wr,xs,h3,h4⟩|⟨wr,xs,h3,h4⟩⟩<;>rw [h3]<;>exact ⟨h1,h2,rfl,h4⟩
  · rintro ⟨h1,h2,h3⟩;split at h3
    · rename_i wr s1 xs e;obtain ⟨rfl,h4⟩:=h3;exact ⟨h1,h2,.inl ⟨wr,xs,e,h4⟩⟩
    · rename_i wr s1 xs e;obtain ⟨rfl,h4⟩:=h3;exact ⟨h1,h2,.inr ⟨wr,xs,e,h4⟩⟩
    · exact h3.elim
def aoc (off:Nat):Option Ob→V
  | some (.box _ cs)=>.ro cs off
  | _=>.top
def awB (q want:Bool) (A B:Prop):Prop:=(q = want→A)∧(q = !want→B)
@[congr] theorem apH {q q2 want:Bool} {A B:Prop} (h:q = q2):awB q want A B = awB q2 want A B:=by rw [h]
@[go_sem ↓] theorem aqB {A B:Prop}:awB true true A B = A:=by simp [awB]
@[go_sem ↓] theorem aqA {A B:Prop}:awB false true A B = B:=by simp [awB]
@[go_sem ↓] theorem aqz {A B:Prop}:awB true false A B = B:=by simp [awB]
@[go_sem ↓] theorem aqy {A B:Prop}:awB false false A B = A:=by simp [awB]
theorem Qs {q:Bool} {A B:Prop} (h1:q = true→A) (h2:q = false→B):awB q true A B:=⟨h1,h2⟩
theorem Qt {q:Bool} {A B:Prop} (h1:q = false→A) (h2:q = true→B):awB q false A B:=⟨h1,h2⟩
section
variable {Γ:Env} {A W:Nat→Bool} {fz:Nat→Bool} {b b0:Nat} {r:List AO} {s:St} {d:Option Nat} {J K:St→Prop} {o:Nat→Option Ob} {br:List Nat} {B:Option (List Nat)}
@[go_sem] theorem u1:WY Γ b [] s K = K { t:=s.t,o:=s.o,n:=b }:=propext Iff.rfl
@[go_sem] theorem u2 {x:AO}:WY Γ b (x :: r) s K = (match x.g with|none=>(match x.op with|.call f as=>awC Γ b r s x.d f (as.map s.ev) K|.callv y as=>V1 Γ b r s x.d (s.ev y) (as.map s.ev) K|op=>awS Γ b r s x.d K (sem b s.ev op))|some (g,want)=>awQ Γ b r s ⟨x.d,x.op,none⟩ g want (s.t g) K):=by
  obtain ⟨d,op,g⟩:=x
  cases g with
  | some p=>obtain ⟨g,want⟩:=p;exact propext ao7
  | none =>
    cases op
    case callv y as=>exact propext aj1
    all_goals rfl
@[go_sem] theorem u3 {f:FuncId} {cap acts:List V}:V1 Γ b r s d (.clo (.n f) cap) acts K = awC Γ b r s d f (acts++cap) K:=propext Iff.rfl
@[go_sem] theorem u4 {x:AO} {g:Nat} {want q:Bool}:awQ Γ b r s x g want (.sc (.bool q)) K = awB q want (WY Γ b (⟨x.d,x.op,none⟩ :: r) (s.put (some g) (.bool want)) K) (WY Γ (b + KK) r ((s.put (some g) (.bool !want)).put x.d V.und) K):=propext Iff.rfl
@[go_sem] theorem u5 {x:AO} {g:Nat} {want:Bool}:awQ Γ b r s x g want (.tup []) K = WY Γ (b + KK) r (s.put x.d V.und) K:=propext Iff.rfl
@[go_sem] theorem u6 {e:E}:awS Γ b r s d K (.ret e) = WY Γ (b + KK) r (s.eff d e) K:=propext Iff.rfl
@[go_sem] theorem u7 {p:Prop} {m:AM E}:awS Γ b r s d K (.asrt p m) = (p∧awS Γ b r s d K m):=propext Iff.rfl
@[go_sem] theorem u8 {a:Nat} {k:Ob→AM E}:awS Γ b r s d K (.rd a k) = Uh Γ b r s d K k (s.o a):=propext apA
@[go_sem] theorem u9 {k:Bool→AM E}:awS Γ b r s d K (.any k) = ∀ t,awS Γ b r s d K (k t):=propext Iff.rfl
@[go_sem] theorem u10:awS Γ b r s d K .no = False:=propext Iff.rfl
@[go_sem] theorem u11 {k:Ob→AM E} {ob:Ob}:Uh Γ b r s d K k (some ob) = awS Γ b r s d K (k ob):=propext Iff.rfl
@[go_sem] theorem u12:Vp Γ fz b0 K .done s = K s:=propext ale
@[go_sem] theorem u13 {j:Nat} {X:Bool} {acl:List Nat} {x:AO} {t r:OP}:Vp Γ fz b0 K (.or j X acl x t r) s = (Vq Γ (rA X acl fz b0) (rW X acl fz b0) (b0 + j * KK) s x (Vp Γ fz b0 K t)∧ael Γ fz b0 K r s):=propext aoe
@[go_sem] theorem u14 {j:Nat} {X:Bool} {acl:List Nat} {x:AO} {t r:OP}:ael Γ fz b0 K (.or j X acl x t r) s = (Vq Γ (rA X acl fz b0) (rW X acl fz b0) (b0 + j * KK) s x (Vp Γ fz b0 K t)∧ael Γ fz b0 K r s):=propext amI
@[go_sem] theorem u15 {j:Nat} {X:Bool} {acl:List Nat} {x:AO} {t:OP}:Vp Γ fz b0 K (.one j X acl x t) s = Vq Γ (rA X acl fz b0) (rW X acl fz b0) (b0 + j * KK) s x (Vp Γ fz b0 K t):=propext amH
@[go_sem] theorem u16:ael Γ fz b0 K .done s = True:=propext aj0
@[go_sem] theorem u17 {x:AO}:Vq Γ A W b s x J = (match x.g with|none=>(match x.op with|.call f as=>Q9 Γ A W b s x.d f (as.map s.ev) J|.callv y as=>YQ Γ A W b s x.d (s.ev y) (as.map s.ev) J|op=>awR A W b s x.d J (sem b s.ev op))|some (g,want)=>VZ Γ A W b s ⟨x.d,x.op,none⟩ g want (s.t g) J):=by
  obtain ⟨d,op,g⟩:=x
  cases g with
  | some p=>obtain ⟨g,want⟩:=p;exact propext ao8
  | none =>
    cases op
    case callv y as=>exact propext aj2
    all_goals rfl
@[go_sem] theorem u18 {f:FuncId} {cap acts:List V}:YQ Γ A W b s d (.clo (.n f) cap) acts J = Q9 Γ A W b s d f (acts++cap) J:=propext Iff.rfl
@[go_sem] theorem u19 {x:AO} {g:Nat} {want q:Bool}:VZ Γ A W b s x g want (.sc (.bool q)) J = awB q want (Vq Γ A W b (s.put (some g) (.bool want)) ⟨x.d,x.op,none⟩ J) (J ((s.put (some g) (.bool !want)).put x.d V.und)):=propext Iff.rfl
@[go_sem] theorem u20 {x:AO} {g:Nat} {want:Bool}:VZ Γ A W b s x g want (.tup []) J = J (s.put x.d V.und):=propext Iff.rfl
@[go_sem] theorem u21:awR A W b s d J .no = False:=propext Iff.rfl
@[go_sem] theorem u22 {e:E}:awR A W b s d J (.ret e) = (okW W b e.os∧J (s.eff d e)):=propext Iff.rfl
@[go_sem] theorem u23 {p:Prop} {m:AM E}:awR A W b s d J (.asrt p m) = (p∧awR A W b s d J m):=propext Iff.rfl
@[go_sem] theorem u24 {a:Nat} {k:Ob→AM E}:awR A W b s d J (.rd a k) = YT A W b s d J k (Vg A s.o a):=propext apB
@[go_sem] theorem u25 {k:Ob→AM E} {ob:Ob}:YT A W b s d J k (some ob) = awR A W b s d J (k ob):=propext Iff.rfl
@[go_sem] theorem u26 {A:Nat→Bool} {o:Nat→Option Ob} {a:Nat}:Vg A o a = if A a = true then o a else none:=rfl
@[go_sem] theorem u27 {W:Nat→Bool} {b:Nat}:okW W b [] = True:=propext aoo
@[go_sem] theorem u28 {W:Nat→Bool} {b:Nat} {q:Nat×Ob} {r:List (Nat×Ob)}:okW W b (q :: r) = ((W q.1 || (decide (b≤q.1) && decide (q.1 < b + KK))) = true∧okW W b r):=propext am2
@[go_sem] theorem u29 {X:Bool} {acl:List Nat} {fz:Nat→Bool} {b0 a:Nat}:rA X acl fz b0 a = ((decide (a < b0) && (X || fz a)) || acl.any fun i=>decide (b0 + i * KK≤a) && decide (a < b0 + i * KK + KK)):=rfl
@[go_sem] theorem u30 {X:Bool} {acl:List Nat} {fz:Nat→Bool} {b0 a:Nat}:rW X acl fz b0 a = (X && ((decide (a < b0) && !fz a) || acl.any fun i=>decide (b0 + i * KK≤a) && decide (a < b0 + i * KK + KK))):=rfl
@[go_sem] theorem u31 {s:St} {n:Nat}:s.wn n = { t:=s.t,o:=s.o,n:=n }:=rfl
@[go_sem] theorem u32 {ks:List Nat} {s:St}:s.keep ks = { t:=yu (ks.map fun k=>(k,s.t k)),o:=s.o,n:=s.n }:=rfl
@[go_sem] theorem u33 {α:Type} {f:Nat→α} {a:Nat} {v:α} {i:Nat}:upd f a v i = if i = a then v else f i:=rfl
@[go_sem] theorem u34 {k:Nat} {v:V} {r:List (Nat×V)} {i:Nat}:yu ((k,v) :: r) i = if i = k then v else yu r i:=rfl
@[go_sem] theorem u35 {i:Nat}:yu [] i = .top:=rfl
@[go_sem] theorem u36 {k:Nat} {v:Ob} {r:List (Nat×Ob)} {i:Nat}:abA ((k,v) :: r) i = if i = k then some v else abA r i:=rfl
@[go_sem] theorem u37 {i:Nat}:abA [] i = none:=rfl
@[go_sem] theorem u38 {args:List V} {ins:List Ob}:UW args ins = { t:=fun i=>(args[i]?).getD .top,o:=fun k=>ins[k]?,n:=ins.length }:=rfl
@[go_sem] theorem u39 {ts:List (Nat×V)} {os:List (Nat×Ob)} {n:Nat}:Xy ts os n = { t:=yu ts,o:=abA os,n:=n }:=rfl
@[go_sem] theorem u40 {α:Type}:([]:List α).length = 0:=rfl
@[go_sem] theorem u41 {α:Type} {a:α} {l:List α}:(a :: l).length = l.length + 1:=rfl
@[go_sem] theorem u42 {α:Type} {a:α} {l:List α}:(a :: l)[0]? = some a:=rfl
@[go_sem] theorem u43 {α:Type} {a:α} {l:List α} {i:Nat}:(a :: l)[i + 1]? = l[i]?:=rfl
@[go_sem] theorem u44 {α:Type} {a b:α}:(some a).getD b = a:=rfl
@[go_sem] theorem u45 {α:Type} {b:α}:(none:Option α).getD b = b:=rfl
@[go_sem] theorem u46 {α β:Type} {f:α→β}:(none:Option α).map f = none:=rfl
@[go_sem] theorem u47 {α β:Type} {f:α→β} {a:α}:(some a).map f = some (f a):=rfl
@[go_sem] theorem u48 {α β:Type} {f:α→β}:([]:List α).map f = []:=rfl
@[go_sem] theorem u49 {α β:Type} {f:α→β} {a:α} {l:List α}:(a :: l).map f = f a :: l.map f:=rfl
@[go_sem] theorem u50 {α:Type} {l:List α}:[]++l = l:=rfl
@[go_sem] theorem u51 {α:Type} {a:α} {l r:List α}:(a :: l)++r = a :: (l++r):=rfl
@[go_sem] theorem u52 {α:Type} {l:List α}:l.take 0 = []:=rfl
@[go_sem] theorem u53 {α:Type} {a:α} {l:List α} {n:Nat}:(a :: l).take (n + 1) = a :: l.take n:=rfl
@[go_sem] theorem u54 {α:Type} {l:List α}:l.drop 0 = l:=rfl
@[go_sem] theorem u55 {α:Type} {a:α} {l:List α} {n:Nat}:(a :: l).drop (n + 1) = l.drop n:=rfl
@[go_sem] theorem u56 {α:Type} {p:α→Bool}:([]:List α).any p = false:=rfl
@[go_sem] theorem u57 {α:Type} {p:α→Bool} {a:α} {l:List α}:(a :: l).any p = (p a || l.any p):=rfl
@[go_sem] theorem u58 {α β:Type} {f:β→α→β} {b:β}:([]:List α).foldl f b = b:=rfl
@[go_sem] theorem u59 {α β:Type} {f:β→α→β} {b:β} {a:α} {l:List α}:(a :: l).foldl f b = l.foldl f (f b a):=rfl
@[go_sem] theorem u60 {α:Type} {a:α}:List.replicate 0 a = []:=rfl
@[go_sem] theorem u61 {α:Type} {n:Nat} {a:α}:List.replicate (n + 1) a = a :: List.replicate n a:=rfl
@[go_sem] theorem u62 {α:Type} {a b:α} {l:List α}:(a :: l).set 0 b = b :: l:=rfl
@[go_sem] theorem u63 {α:Type} {a b:α} {l:List α} {n:Nat}:(a :: l).set (n + 1) b = a :: l.set n b:=rfl
@[go_sem] theorem u64 {n:Nat}:n + 0 = n:=rfl
@[go_sem] theorem u65 {n:Nat}:(n:Int).toNat = n:=rfl
@[go_sem] theorem u66 {α:Type} {i:Nat}:([]:List α)[i]? = none:=by simp
@[go_sem] theorem u67 {α:Type} {l:List α}:l++[] = l:=by simp
@[go_sem] theorem u68 {α:Type} {n:Nat}:([]:List α).take n = []:=by simp
@[go_sem] theorem u69 {α:Type} {n:Nat}:([]:List α).drop n = []:=by simp
@[go_sem] theorem u70 {n:Nat}:0 + n = n:=by simp
@[go_sem] theorem u71 {n:Nat}:(0≤(n:Int)) = True:=by simp
@[go_sem] theorem u72 {n:Nat}:(n≤n) = True:=by simp
@[go_sem] theorem u73 {α:Type} {p:α→Prop} {a:α} {l:List α}:(∀ x∈a :: l,p x) = (p a∧∀ x∈l,p x):=by simp
@[go_sem] theorem u74 {α:Type} {p:α→Prop}:(∀ x∈([]:List α),p x) = True:=by simp
@[go_sem] theorem u75 {α:Type} {a:α}:(a∈([]:List α)) = False:=by simp
@[go_sem] theorem u76 {p:Prop}:(True∧p) = p:=by simp
@[go_sem] theorem u77 {p:Prop}:(p∧True) = p:=by simp
@[go_sem] theorem u78 {p:Prop}:(False∧p) = False:=by simp
@[go_sem] theorem u79 {p:Prop}:(True∨p) = True:=by simp
@[go_sem] theorem u80 {p:Prop}:(p∨True) = True:=by simp
@[go_sem] theorem u81 {p:Prop}:(False∨p) = p:=by simp
@[go_sem] theorem u82 {p:Prop}:(p∨False) = p:=by simp
@[go_sem] theorem u83:(¬ True) = False:=by simp
@[go_sem] theorem u84:(¬ False) = True:=by simp
@[go_sem] theorem u85 {p:Prop}:(False→p) = True:=by simp
@[go_sem] theorem u86 {p:Prop}:(True→p) = p:=by simp
@[go_sem] theorem u87 {α:Type}:(α→True) = True:=by simp
@[go_sem] theorem u88 {p:Prop}:(p→True) = True:=by simp
@[go_sem] theorem u89:(false = true) = False:=by simp
@[go_sem] theorem u90:(true = false) = False:=by simp
@[go_sem] theorem u91 {α:Type} {a b:α}:(some a = some b) = (a = b):=by simp
@[go_sem] theorem u92 {α:Type} {a:α}:(a = a) = True:=by simp
@[go_sem] theorem u93:decide True = true:=by simp
@[go_sem] theorem u94:decide False = false:=by simp
@[go_sem] theorem u95:(!true) = false:=rfl
@[go_sem] theorem u96:(!false) = true:=rfl
@[go_sem] theorem u97 {b:Bool}:(true && b) = b:=rfl
@[go_sem] theorem u98 {b:Bool}:(false && b) = false:=rfl
@[go_sem] theorem u99 {b:Bool}:(true || b) = true:=rfl
@[go_sem] theorem asj {b:Bool}:(false || b) = b:=rfl
@[go_sem] theorem asi {α:Type} {a b:α}:(a≠b) = ¬ (a = b):=rfl
@[go_sem] theorem ash {b:Bool}:(b && true) = b:=by simp
@[go_sem] theorem asg {b:Bool}:(b && false) = false:=by simp
@[go_sem] theorem asf {b:Bool}:(b || true) = true:=by simp
@[go_sem] theorem ase {b:Bool}:(b || false) = b:=by simp
@[go_sem] theorem asd {v:V}:conv o br B v .top = True:=propext (by apply apr)
@[go_sem] theorem asc {v u:Value}:conv o br B (.sc v) (.sc u) = (v = u):=propext (by apply ap9)
@[go_sem] theorem asb {s:Nat} {ys:List V}:conv o br B (.sc (.slice none 0 0)) (.sl s ys) = (ys = []):=propext (by apply apt)
@[go_sem] theorem asa {s s':Nat} {xs ys:List V}:conv o br B (.sl s xs) (.sl s' ys) = (s = s'∧xs = ys):=propext (by apply ap8)
@[go_sem] theorem ar9 {a off len s:Nat} {ys:List V}:conv o br B (.hd a off len) (.sl s ys) = (okB B a∧a ∉ br∧hdC o br B off len s ys (o a)):=propext (by apply apu)
@[go_sem] theorem ar8 {a off off':Nat} {es:List V}:conv o br B (.ptr a off) (.ro es off') = (okB B a∧a ∉ br∧off' = off∧Qn es∧∃ wr cs,o a = some (.box wr cs)∧X2 o br B cs es):=propext (by apply aps)
@[go_sem] theorem ar7 {off off':Nat} {cs es:List V}:conv o br B (.ro cs off) (.ro es off') = (cs = es∧off' = off):=propext (by apply aqa)
@[go_sem] theorem ar6 {cs es:List V}:conv o br B (.agg cs) (.agg es) = X2 o br B cs es:=propext (by apply apw)
@[go_sem] theorem ar5 {cs es:List V}:conv o br B (.tup cs) (.tup es) = X2 o br B cs es:=propext (by apply apq)
@[go_sem] theorem ar4 {f g:FK} {cs es:List V}:conv o br B (.clo f cs) (.clo g es) = (f = g∧X2 o br B cs es):=propext (by apply apv)
@[go_sem] theorem ar3 :conv o br B .nn .nn = True:=propext (by apply aqb)
@[go_sem] theorem ar2:X2 o br B [] [] = True:=propext (aoB _ _ _)
@[go_sem] theorem ar1 {v e:V} {r r':List V}:X2 o br B (v :: r) (e :: r') = (conv o br B v e∧X2 o br B r r'):=propext (ano _ _ _ _ _ _ _)
@[go_sem] theorem ar0 {a:Nat}:okB none a = True:=propext (am4 _)
@[go_sem] theorem arZ {l:List Nat} {a:Nat}:okB (some l) a = (a∈l):=propext (am3 _ _)
@[go_sem] theorem arY {wr0:Bool} {s0 s:Nat} {xs0:List V} {p:List V→Prop}:(∃ wr xs,some (Ob.buf wr0 s0 xs0) = some (Ob.buf wr s xs)∧p xs) = (s0 = s∧p xs0):=propext akt
@[go_sem] theorem arX {wr0:Bool} {s0 s:Nat} {xs0:List V} {p:List V→Prop}:(∃ wr xs,Ob.buf wr0 s0 xs0 = Ob.buf wr s xs∧p xs) = (s0 = s∧p xs0):=propext aiE
@[go_sem] theorem arW {wr0:Bool} {cs0:List V} {p:List V→Prop}:(∃ wr cs,some (Ob.box wr0 cs0) = some (Ob.box wr cs)∧p cs) = p cs0:=propext aku
@[go_sem] theorem arV {wr0:Bool} {cs0:List V} {p:List V→Prop}:(∃ wr cs,Ob.box wr0 cs0 = Ob.box wr cs∧p cs) = p cs0:=propext aiF
@[go_sem] theorem arU {wr0:Bool} {s0:Nat} {xs0:List V}:(∃ wr s xs,some (Ob.buf wr0 s0 xs0) = some (Ob.buf wr s xs)) = True:=eq_true ⟨wr0,s0,xs0,rfl⟩
@[go_sem] theorem arT {wr0:Bool} {s0:Nat} {xs0:List V}:(∃ wr s xs,Ob.buf wr0 s0 xs0 = Ob.buf wr s xs) = True:=eq_true ⟨wr0,s0,xs0,rfl⟩
@[go_sem] theorem arS {k:IntKind} {a b:Int}:(Value.int k a = Value.int k b) = (a = b):=by simp
@[go_sem] theorem arR {a b:Bool}:(Value.bool a = Value.bool b) = (a = b):=by simp
@[go_sem] theorem arQ {l:List UInt8}:(⟨l.toArray⟩:ByteArray).size = l.length:=ad1 l
@[go_sem] theorem arP {l:List UInt8}:l.toArray.toList = l:=by simp
@[go_sem] theorem arO {l:List UInt8} {a b:Nat}:(⟨l.toArray⟩:ByteArray).extract a b = ⟨((l.drop a).take (b - a)).toArray⟩:=an9 l a b
@[go_sem] theorem arN {a b:List UInt8}:adr .add ⟨a.toArray⟩ ⟨b.toArray⟩ = .asrt (a.length + b.length < 2 ^ 62) (.ret { v:=V.str (a++b) }):=aoQ a b
@[go_sem] theorem arM {a b:List UInt8}:adr .eql ⟨a.toArray⟩ ⟨b.toArray⟩ = .ret { v:=.bool (a == b) }:=aoP a b
@[go_sem] theorem arL {a b:List UInt8}:adr .neq ⟨a.toArray⟩ ⟨b.toArray⟩ = .ret { v:=.bool (!(a == b)) }:=aoK a b
@[go_sem] theorem arK {a b:List UInt8}:adr .lss ⟨a.toArray⟩ ⟨b.toArray⟩ = .ret { v:=.bool (Op.bytesLess a b) }:=aoL a b
@[go_sem] theorem arJ {a b:List UInt8}:adr .leq ⟨a.toArray⟩ ⟨b.toArray⟩ = .ret { v:=.bool (Op.bytesLess a b || a == b) }:=aoM a b
@[go_sem] theorem arI {a b:List UInt8}:adr .gtr ⟨a.toArray⟩ ⟨b.toArray⟩ = .ret { v:=.bool (!(Op.bytesLess a b || a == b)) }:=aoN a b
@[go_sem] theorem arH {a b:List UInt8}:adr .geq ⟨a.toArray⟩ ⟨b.toArray⟩ = .ret { v:=.bool (!(Op.bytesLess a b)) }:=aoO a b
@[go_sem] theorem arG {a b:List UInt8}:(Value.string ⟨a.toArray⟩ = Value.string ⟨b.toArray⟩) = (a = b):=by simp
@[go_sem] theorem arF {v:Value}:V.shut o (.sc v) = .sc v:=by simp only [V.shut]
@[go_sem] theorem arE :V.shut o .nn = .nn:=by simp only [V.shut]
@[go_sem] theorem arD :V.shut o .top = .top:=by simp only [V.shut]
@[go_sem] theorem arC {k:Nat} {xs:List V}:V.shut o (.sl k xs) = .sl k xs:=by simp only [V.shut]
@[go_sem] theorem arB {cs:List V} {k:Nat}:V.shut o (.ro cs k) = .ro cs k:=by simp only [V.shut]
@[go_sem] theorem arA {cs:List V}:V.shut o (.agg cs) = .agg (Wy o cs):=by simp only [V.shut]
@[go_sem] theorem arz {cs:List V}:V.shut o (.tup cs) = .tup (Wy o cs):=by simp only [V.shut]
@[go_sem] theorem ary {f:FK} {cs:List V}:V.shut o (.clo f cs) = .clo f (Wy o cs):=by simp only [V.shut]
@[go_sem] theorem arx {a off len:Nat}:V.shut o (.hd a off len) = apN o off len (o a):=by simp only [V.shut,apN]<;>rfl
@[go_sem] theorem arw {a off:Nat}:V.shut o (.ptr a off) = aoc off (o a):=by simp only [V.shut,aoc]<;>rfl
@[go_sem] theorem arv {off len s:Nat} {wr:Bool} {xs:List V}:apN o off len (some (.buf wr s xs)) = .sl s ((xs.drop off).take len):=rfl
@[go_sem] theorem aru {off:Nat} {wr:Bool} {cs:List V}:aoc off (some (.box wr cs)) = .ro cs off:=rfl
@[go_sem] theorem art:Wy o [] = []:=by simp only [Wy]
@[go_sem] theorem ars {v:V} {cs:List V}:Wy o (v :: cs) = v.shut o :: Wy o cs:=by simp only [Wy]
@[go_sem] theorem arq {v:Value}:V.shutOk o B (.sc v) = True:=by simp only [V.shutOk]
@[go_sem] theorem arp :V.shutOk o B .nn = True:=by simp only [V.shutOk]
@[go_sem] theorem aro :V.shutOk o B .top = True:=by simp only [V.shutOk]
@[go_sem] theorem arn {k:Nat} {xs:List V}:V.shutOk o B (.sl k xs) = True:=by simp only [V.shutOk]
@[go_sem] theorem arm {cs:List V} {k:Nat}:V.shutOk o B (.ro cs k) = True:=by simp only [V.shutOk]
@[go_sem] theorem arl {a off len:Nat}:V.shutOk o B (.hd a off len) = (okB B a∧ao0 o B off len (o a)):=by simp only [V.shutOk]
@[go_sem] theorem ark {a off:Nat}:V.shutOk o B (.ptr a off) = (okB B a∧∃ wr cs,o a = some (.box wr cs)∧Qn cs):=by simp only [V.shutOk]
@[go_sem] theorem arj {cs:List V}:V.shutOk o B (.agg cs) = JU o B cs:=by simp only [V.shutOk]
@[go_sem] theorem ari {cs:List V}:V.shutOk o B (.tup cs) = JU o B cs:=by simp only [V.shutOk]
@[go_sem] theorem arh {f:FK} {cs:List V}:V.shutOk o B (.clo f cs) = JU o B cs:=by simp only [V.shutOk]
@[go_sem] theorem arg:JU o B [] = True:=by simp only [JU]
@[go_sem] theorem arf {v:V} {cs:List V}:JU o B (v :: cs) = (v.shutOk o B∧JU o B cs):=by simp only [JU]
@[go_sem] theorem ard {v:Value}:V.closed (.sc v) = True:=by simp only [V.closed]
@[go_sem] theorem arc :V.closed .nn = True:=by simp only [V.closed]
@[go_sem] theorem arb :V.closed .top = True:=by simp only [V.closed]
@[go_sem] theorem ara {k:Nat} {xs:List V}:V.closed (.sl k xs) = True:=by simp only [V.closed]
@[go_sem] theorem aq9 {cs:List V} {k:Nat}:V.closed (.ro cs k) = True:=by simp only [V.closed]
@[go_sem] theorem aq8 {cs:List V}:V.closed (.agg cs) = Qn cs:=by simp only [V.closed]
@[go_sem] theorem aq7 {cs:List V}:V.closed (.tup cs) = Qn cs:=by simp only [V.closed]
@[go_sem] theorem aq6 {f:FK} {cs:List V}:V.closed (.clo f cs) = Qn cs:=by simp only [V.closed]
@[go_sem] theorem aq5:Qn [] = True:=by simp only [Qn]
@[go_sem] theorem aq4 {v:V} {cs:List V}:Qn (v :: cs) = (v.closed∧Qn cs):=by simp only [Qn]
@[go_sem] theorem aq3 {v:Value}:V.cells (.sc v) = [.sc v]:=by simp only [V.cells]
@[go_sem] theorem aq2 {k:Nat} {xs:List V}:V.cells (.sl k xs) = [.sl k xs]:=by simp only [V.cells]
@[go_sem] theorem aq1 {a off len:Nat}:V.cells (.hd a off len) = [.hd a off len]:=by simp only [V.cells]
@[go_sem] theorem aq0 {a off:Nat}:V.cells (.ptr a off) = [.ptr a off]:=by simp only [V.cells]
@[go_sem] theorem aqZ {cs:List V} {k:Nat}:V.cells (.ro cs k) = [.ro cs k]:=by simp only [V.cells]
@[go_sem] theorem aqY {cs:List V}:V.cells (.agg cs) = cs:=by simp only [V.cells]
@[go_sem] theorem aqX {f:FK} {cs:List V}:V.cells (.clo f cs) = [.clo f cs]:=by simp only [V.cells]
@[go_sem] theorem aqW :V.cells .nn = [.nn]:=by simp only [V.cells]
@[go_sem] theorem aqV:Wn [] [] [] = some true:=by simp only [Wn]
@[go_sem] theorem aqU {ks:List Nat} {k k':IntKind} {a b:Int} {xs ys:List V}:Wn (0 :: ks) (.sc (.int k a) :: xs) (.sc (.int k' b) :: ys) = if k = k' then (Wn ks xs ys).map ((a == b) && ·) else none:=by simp only [Wn]
@[go_sem] theorem aqT {ks:List Nat} {a b:List UInt8} {xs ys:List V}:Wn (1 :: ks) (.sc (.string ⟨a.toArray⟩) :: xs) (.sc (.string ⟨b.toArray⟩) :: ys) = (Wn ks xs ys).map ((a == b) && ·):=by simp only [Wn];congr;funext t;congr 1;rw [Bool.eq_iff_iff];simp;show (a.toArray == b.toArray) = true↔a = b;simp
@[go_sem] theorem aqS {ks:List Nat} {a b:Bool} {xs ys:List V}:Wn (2 :: ks) (.sc (.bool a) :: xs) (.sc (.bool b) :: ys) = (Wn ks xs ys).map ((a == b) && ·):=by simp only [Wn]
@[go_sem] theorem aqR {l:List UInt8}:(l == l) = true:=by simp
@[go_sem] theorem aqQ {n:Int}:(n == n) = true:=by simp
@[go_sem] theorem aqP {k:IntKind}:(k == k) = true:=by cases k<;>rfl
@[go_sem] theorem aqO {f:FuncId} {cap acts:List V}:V1 Γ b r s d (.clo (.m f) cap) acts K = awC Γ b r s d f (cap++acts) K:=propext Iff.rfl
@[go_sem] theorem aqN {f:FuncId} {cap acts:List V}:YQ Γ A W b s d (.clo (.m f) cap) acts J = Q9 Γ A W b s d f (cap++acts) J:=propext Iff.rfl
@[go_sem] theorem aqM {off len s:Nat} {ys:List V} {wr:Bool} {s1:Nat} {xs:List V}:hdC o br B off len s ys (some (.buf wr s1 xs)) = (s1 = s∧ys = (xs.drop off).take len):=rfl
@[go_sem] theorem aqL {off len s:Nat} {ys:List V} {wr:Bool} {s1:Nat} {xs:List V}:hdC o br B off len s ys (some (.obuf wr s1 xs)) = (s1 = s∧X2 o br B ((xs.drop off).take len) ys∧ntL ys∧Qn ys):=rfl
@[go_sem] theorem aqK {off len s:Nat} {wr:Bool} {xs:List V}:apN o off len (some (.obuf wr s xs)) = .sl s (w5 o ((xs.drop off).take len)):=rfl
@[go_sem] theorem aqJ {off len s:Nat} {wr:Bool} {xs:List V}:ao0 o B off len (some (.buf wr s xs)) = True:=rfl
@[go_sem] theorem aqI {off len s:Nat} {wr:Bool} {xs:List V}:ao0 o B off len (some (.obuf wr s xs)) = (y6 o B ((xs.drop off).take len)∧ntL (w5 o ((xs.drop off).take len))):=rfl
@[go_sem] theorem aqH {l:List Nat} {k:Nat→AM E}:awS Γ b r s d K (.anyN l k) = (l≠[]∧∀ i∈l,awS Γ b r s d K (k i)):=propext Iff.rfl
@[go_sem] theorem aqG {ag:Bool} {ks:List Nat} {k:V} {i:Nat}:vC ag ks k [] i = some none:=rfl
@[go_sem] theorem aqF {ks:List Nat} {u v:Value}:abb false ks (.sc u) (.sc v) = Wn ks [.sc u] [.sc v]:=rfl
@[go_sem] theorem aqE {ks:List Nat} {u v:List V}:abb true ks (.agg u) (.agg v) = Wn ks u v:=rfl
@[go_sem] theorem aqD {a:Nat}:V.cells (.mp a) = [.mp a]:=by simp only [V.cells]
@[go_sem] theorem aqC {a k:Nat}:conv o br B (.mp a) (.mp k) = (br[k]? = some a):=by simp only [conv]
end
attribute [go_sem] KK sem AM.int AM.str AM.slice AM.sliceK aoJ AM.cellsAt ao3 St.eff St.put St.ev vq V.ofV ZC.v wZ aoV splice agG V.mk vG V.small yz ajB x9 ahj Int.cast_ofNat_Int V.und
end Av
end
section
namespace Av
open Go
theorem aiB {α:Type} {p:α→Prop} {a:α} {l:List α}:(∀ x∈a :: l,p x)↔(p a∧∀ x∈l,p x):=by simp
theorem aks {α:Type} {p:α→Prop}:(∀ x∈([]:List α),p x)↔True:=by simp
theorem zsd {p:Prop} (h:p:=by first|assumption|omega|(simp;done)):p:=h
theorem zlo {p:Prop} (h:p:=by simp only [List.length_append,List.length_cons,List.length_nil,List.length_map,Nat.reducePow,Nat.reduceAdd];omega):p:=h
theorem zms {α:Type} {a:α}:a∈[a]:=List.mem_singleton_self _
theorem znf {p:Prop} (h:p:=by first|(exfalso;simp only [List.length_map] at hc;omega)|(exfalso;omega)):p:=h
theorem znz:(∀ {p:Prop} [Decidable p],(decide p = true) = p)∧(∀ {p:Prop} [Decidable p],(decide p = false) = ¬ p)∧(∀ {α:Type} [BEq α] [LawfulBEq α] {a b:α},((a == b) = true) = (a = b)) ∧
    (∀ {α:Type} [BEq α] [LawfulBEq α] {a b:α},((a == b) = false) = ¬ (a = b))∧(∀ {α:Type} {a b:α},(a≠b) = ¬ (a = b))∧(∀ {b:Bool},((!b) = true) = (b = false))∧(∀ {b:Bool},((!b) = false) = (b = true)) :=
  ⟨propext decide_eq_true_iff,propext decide_eq_false_iff_not,propext beq_iff_eq,propext beq_eq_false_iff_ne,rfl,Bool.not_eq_true' _,Bool.not_eq_false' _⟩
structure EvB (Γ:Env) (f:FuncId) (args:List V) (res:V) (B:Option (List Nat)):Prop where
  ev:Ev Γ f args [] res []
  cl:res.closed
  sh:(B = none∧res.noSl)∨B = some []
theorem EvN.b {Γ:Env} {f:FuncId} {args:List V} {res:V} (h:EvN Γ f args res):EvB Γ f args res none:=⟨h.1,h.2.1,.inl ⟨rfl,h.2.2⟩⟩
theorem EvC.b {Γ:Env} {f:FuncId} {args:List V} {res:V} (h:EvC Γ f args res):EvB Γ f args res (some []):=⟨h.1,h.2,.inr rfl⟩
section
variable {Γ:Env} {A W:Nat→Bool} {b:Nat} {r:List AO} {s:St} {d:Option Nat} {f:FuncId} {acts:List V} {res:V} {J K:St→Prop} {B:Option (List Nat)}
theorem aqk (h:EvB Γ f (Wy s.o acts) res B) (hc:JU s.o B acts) (hk:WY Γ (b + KK) r { t:=(s.put d res).t,o:=s.o,n:=s.n } K):awC Γ b r s d f acts K:=by
  obtain ⟨h1,h2,⟨rfl,h3⟩|rfl⟩:=h
  · exact aqf hc ⟨h1,h2,h3⟩ hk
  · exact aqj hc ⟨h1,h2⟩ hk
theorem apG (h:EvB Γ f (Wy (Vg A s.o) acts) res B) (hc:JU (Vg A s.o) B acts) (hk:J { t:=(s.put d res).t,o:=s.o,n:=s.n }):Q9 Γ A W b s d f acts J:=by
  obtain ⟨h1,h2,⟨rfl,h3⟩|rfl⟩:=h
  · exact apD hc ⟨h1,h2,h3⟩ hk
  · exact apF hc ⟨h1,h2⟩ hk
def anW (Γ:Env) (b:Nat) (r:List AO) (s:St) (d:Option Nat) (f:FuncId) (acts args:List V) (okf:Option (List Nat)→Prop) (K:St→Prop):Prop :=
  args = Wy s.o acts→okf = (fun B=>JU s.o B acts)→awC Γ b r s d f acts K
def aoU (Γ:Env) (A W:Nat→Bool) (b:Nat) (s:St) (d:Option Nat) (f:FuncId) (acts args:List V) (okf:Option (List Nat)→Prop) (J:St→Prop):Prop :=
  args = Wy (Vg A s.o) acts→okf = (fun B=>JU (Vg A s.o) B acts)→Q9 Γ A W b s d f acts J
@[go_sem] theorem aqx:awC Γ b r s d f acts K = anW Γ b r s d f acts (Wy s.o acts) (fun B=>JU s.o B acts) K:=propext ⟨fun h _ _=>h,fun h=>h rfl rfl⟩
@[go_sem] theorem aqm:Q9 Γ A W b s d f acts J = aoU Γ A W b s d f acts (Wy (Vg A s.o) acts) (fun B=>JU (Vg A s.o) B acts) J:=propext ⟨fun h _ _=>h,fun h=>h rfl rfl⟩
theorem Qv {args:List V} {okf:Option (List Nat)→Prop} (h:EvB Γ f args res B) (hc:okf B) (hk:WY Γ (b + KK) r { t:=(s.put d res).t,o:=s.o,n:=s.n } K):anW Γ b r s d f acts args okf K:=by
  rintro rfl rfl;exact aqk h hc hk
theorem Jm {args:List V} {okf:Option (List Nat)→Prop} (h:EvB Γ f args res B) (hc:okf B) (hk:J { t:=(s.put d res).t,o:=s.o,n:=s.n }):aoU Γ A W b s d f acts args okf J:=by
  rintro rfl rfl;exact apG h hc hk
end
mutual
theorem aiS (o:Nat→Option Ob):∀ v:V,v.closed→v.shut o = v
  | .top,_=>by simp only [V.shut]
  | .sc _,_=>by simp only [V.shut]
  | .nn,_=>by simp only [V.shut]
  | .sl _ _,_=>by simp only [V.shut]
  | .hd _ _ _,h=>h.elim
  | .ptr _ _,h=>h.elim
  | .ept _ _ _,h=>h.elim
  | .mp _,h=>h.elim
  | .ro _ _,_=>by simp only [V.shut]
  | .agg cs,h=>by simp only [V.shut];rw [YW o cs h]
  | .tup cs,h=>by simp only [V.shut];rw [YW o cs h]
  | .clo _ cs,h=>by simp only [V.shut];rw [YW o cs h]
theorem YW (o:Nat→Option Ob):∀ cs:List V,Qn cs→Wy o cs = cs
  | [],_=>by simp only [Wy]
  | v :: r,h=>by simp only [Wy];rw [aiS o v h.1,YW o r h.2]
end
mutual
theorem agO (o:Nat→Option Ob) (B:Option (List Nat)):∀ v:V,v.closed→v.shutOk o B
  | .top,_=>by simp only [V.shutOk]
  | .sc _,_=>by simp only [V.shutOk]
  | .nn,_=>by simp only [V.shutOk]
  | .sl _ _,_=>by simp only [V.shutOk]
  | .hd _ _ _,h=>h.elim
  | .ptr _ _,h=>h.elim
  | .ept _ _ _,h=>h.elim
  | .mp _,h=>h.elim
  | .ro _ _,_=>by simp only [V.shutOk]
  | .agg cs,h=>by simp only [V.shutOk];exact Yo o B cs h
  | .tup cs,h=>by simp only [V.shutOk];exact Yo o B cs h
  | .clo _ cs,h=>by simp only [V.shutOk];exact Yo o B cs h
theorem Yo (o:Nat→Option Ob) (B:Option (List Nat)):∀ cs:List V,Qn cs→JU o B cs
  | [],_=>by simp only [JU]
  | v :: r,h=>by simp only [JU];exact ⟨agO o B v h.1,Yo o B r h.2⟩
end
@[go_sem] def mv (d x:Nat):AO:=⟨some d,.mov (.t x),none⟩
@[go_sem] def mc (d:Nat) (v:V):AO:=⟨some d,.mov (.c v),none⟩
@[go_sem] def mg (d x g:Nat) (q:Bool):AO:=⟨some d,.mov (.t x),some (g,q)⟩
@[go_sem] def ld (d s x:Nat):AO:=⟨some d,.load false s (.t x),none⟩
@[go_sem] def ia (d s x i:Nat):AO:=⟨some d,.iaddr s (.t x) (.t i),none⟩
@[go_sem] def fa (d o x:Nat):AO:=⟨some d,.faddr o (.t x),none⟩
@[go_sem] def nk (d x:Nat):AO:=⟨some d,.nilck (.t x),none⟩
@[go_sem] def ex (d x i:Nat):AO:=⟨some d,.ext (.t x) i,none⟩
@[go_sem] def ln (d x:Nat):AO:=⟨some d,.lenL (.t x),none⟩
@[go_sem] def bn (d:Nat) (op:BinOp) (x y:Nat):AO:=⟨some d,.bin op (.t x) (.t y),none⟩
@[go_sem] def bc (d:Nat) (op:BinOp) (x:Nat) (v:V):AO:=⟨some d,.bin op (.t x) (.c v),none⟩
@[go_sem] def cl (d f:Nat) (ts:List Nat):AO:=⟨some d,.call f (ts.map .t),none⟩
@[go_sem] def xo (d:Nat) (op:AOp):AO:=⟨some d,op,none⟩
@[go_sem] def xg (d:Nat) (op:AOp) (g:Nat) (q:Bool):AO:=⟨some d,op,some (g,q)⟩
@[go_sem] def xs (s a x:Nat):AO:=⟨none,.store s (.t a) (.t x),none⟩
attribute [go_sem] aiB aks V.ren qU QO V.lt ltL Ob.weak KK
attribute [go_sem_proc] Int.reduceAdd Int.reduceBEq Int.reduceEq Int.reduceLE Int.reduceLT Int.reduceToNat Nat.reduceAdd Nat.reduceEqDiff Nat.reduceLT Nat.reduceLeDiff Nat.reduceMul Nat.reduceSub reduceCtorEq reduceIte
end Av
end
