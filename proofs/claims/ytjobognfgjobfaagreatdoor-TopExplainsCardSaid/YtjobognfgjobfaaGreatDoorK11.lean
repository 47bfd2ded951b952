/- Code with its notes, reckoned from the program: which slots are still needed, the regions' plans (their orders are given). -/
import Derived.Test.YtjobognfgjobfaaGreatDoorK10
import Derived.KernelRfl
set_option linter.unusedVariables false
set_option linter.unusedSimpArgs false
section
namespace Av
open Go
structure RH where
 fz:Nat→Bool
 L:List Nat
 t:OT
def zoc:Nat→Nat→OT
 | _,0=>.done
 | i,n + 1=>.one i (zoc (i + 1) n)
abbrev zhn (n:Nat):RH:=⟨fun _=>true,[],zoc 0 n⟩
inductive DC where
 | skip
 | reg (ops:List AO)
 | regD (N:Nat) (fz:Nat→Bool) (L:List Nat) (t:OT) (p:OP) (ops:List AO) (ahead:List (List Nat))
 | seq (ks:List Nat) (a b:DC)
 | cond (c:Opd) (a b:DC)
 | block (id:Nat) (a:DC)
 | loop (ks:List Nat) (a:DC)
 | exit (id:Nat)
 | ret
abbrev ayo (_N:Nat) (_fz:Nat→Bool) (_L:List Nat) (_t:OT) (_p:OP) (ops:List AO) (ahead:List (List Nat)):AC:=.regD ops ahead
def DC.ac:DC→AC
 | .skip=>.skip
 | .reg ops=>.reg ops
 | .regD N fz L t p ops ahead=>ayo N fz L t p ops ahead
 | .seq ks a b=>qP ks a.ac b.ac
 | .cond c a b=>.cond c a.ac b.ac
 | .block i a=>.block i a.ac
 | .loop ks a=>arM ks a.ac
 | .exit i=>.exit i
 | .ret=>.ret
def awX (a b:List Nat):List Nat:=a++b.filter fun x=>!a.contains x
def axz (a:Nat):List Nat→List Nat
 | []=>[a]
 | b :: r=>if a≤b then a :: b :: r else b :: axz a r
def avm:List Nat→List Nat
 | []=>[]
 | a :: r=>axz a (avm r)
def alE (ops:List AO) (out:List Nat):List Nat:=ops.foldr (fun x l=>awX (match x.d with|some d=>l.filter (· != d)|none=>l) x.looks) out
def av5 (f:List Nat→List Nat):Nat→List Nat→List Nat
 | 0,l=>l
 | n + 1,l=>let u:=awX l (f l);if u.length = l.length then u else av5 f n u
def live (rt:List Nat):(Nat→List Nat)→AC→List Nat→List Nat
 | _,.skip,out=>out
 | _,.reg ops,out=>alE ops out
 | _,.regD ops _,out=>alE ops out
 | ex,.seq a b,out=>live rt ex a (live rt ex b out)
 | ex,.cond c a b,out=>awX (awX (match c with|.t i=>[i]|_=>[]) (live rt ex a out)) (live rt ex b out)
 | ex,.block i a,out=>live rt (fun j=>if j = i then out else ex j) a out
 | ex,.loop a,_=>av5 (live rt ex a) 9 []
 | ex,.exit i,_=>ex i
 | _,.ret,_=>rt
def aqG (rt:List Nat):(Nat→List Nat)→AC→List Nat→List RH→DC×List Nat×List RH
 | _,.skip,out,hs=>(.skip,out,hs)
 | _,.reg ops,out,hs=>(.reg ops,alE ops out,hs)
 | _,.regD ops ahead,out,hs=>match hs with
   | h :: r=>(.regD ops.length h.fz h.L h.t (aaf (ris ops ahead h.L) h.t) ops ahead,alE ops out,r)
   | []=>(.regD 0 (fun _=>false) [] .done .done ops ahead,alE ops out,[])
 | ex,.seq a b,out,hs=>match aqG rt ex b out hs with
   | (b',lb,hs)=>match aqG rt ex a lb hs with
    | (a',la,hs)=>(.seq (avm lb) a' b',la,hs)
 | ex,.cond c a b,out,hs=>match aqG rt ex b out hs with
   | (b',lb,hs)=>match aqG rt ex a out hs with
    | (a',la,hs)=>(.cond c a' b',awX (awX (match c with|.t i=>[i]|_=>[]) la) lb,hs)
 | ex,.block i a,out,hs=>match aqG rt (fun j=>if j = i then out else ex j) a out hs with
   | (a',la,hs)=>(.block i a',la,hs)
 | ex,.loop a,_,hs=>let l:=av5 (live rt ex a) 9 []
   match aqG rt ex a l hs with
   | (a',_,hs)=>(.loop (avm l) a',l,hs)
 | ex,.exit i,_,hs=>(.exit i,ex i,hs)
 | _,.ret,_,hs=>(.ret,rt,hs)
theorem awj (rt:List Nat) (ac:AC):∀ (ex:Nat→List Nat) (out:List Nat) (hs:List RH),(aqG rt ex ac out hs).1.ac = ac:=by
 induction ac with
 | skip=>intros;rfl
 | reg=>intros;rfl
 | regD ops ahead=>intro ex out hs;cases hs<;>rfl
 | seq a b iha ihb=>intro ex out hs;simp only [aqG,DC.ac,iha,ihb]
 | cond c a b iha ihb=>intro ex out hs;simp only [aqG,DC.ac,iha,ihb]
 | block i a ih=>intro ex out hs;simp only [aqG,DC.ac,ih]
 | loop a ih=>intro ex out hs;simp only [aqG,DC.ac,ih]
 | exit=>intros;rfl
 | ret=>intros;rfl
def axd:Uh→List Nat
 | .tmp t=>[t]
 | .cell a _ _=>[a]
noncomputable def dC (P:Program) (fn:Func):Option (AC×List Uh) :=
 match fn.body.bind (aba P fn.ntmps),ajT P fn.results.toList with
 | some ac,some rs=>some (ac,rs)
 | _,_=>none
noncomputable def dD (x:AC×List Uh) (hs:List RH):DC×List Uh:=((aqG (x.2.flatMap axd) (fun _=>[]) x.1 (x.2.flatMap axd) hs).1,x.2)
noncomputable def dF (P:Program) (fn:Func) (hs:List RH):Option (DC×List Uh):=(dC P fn).map (dD · hs)
theorem ayH {P:Program} {fn:Func} {hs:List RH} {x:AC×List Uh} {d:DC×List Uh} (h1:dC P fn = some x) (h2:dD x hs = d):dF P fn hs = some d:=by rw [dF,h1,← h2];rfl
abbrev QD (P:Program) (fn:Func) (hs:List RH):Type:={ d:DC×List Uh // dF P fn hs = some d }
theorem zhd {P:Program} {f:Nat} {fn:Func} {hs:List RH} (q:QD P fn hs) (h:P.funcs[f]? = some fn) (hn:fn.name≠"runtime.NumGoroutine":=by decide):Has P f fn.ntmps q.1.1.ac q.1.2:=by
 obtain ⟨⟨d,rs⟩,hq⟩:=q
 obtain ⟨x,h1,h2⟩:=zh.1 hq
 unfold dC at h1
 split at h1
 ·rename_i ac rs' h3 h4
  cases h1
  cases h2
  obtain ⟨code,hb,hc⟩:=Option.bind_eq_some_iff.1 h3
  exact ⟨fn,code,h,hn,hb,rfl,by rw [hc,awj],h4⟩
 ·cases h1
section
variable {L:List Nat} {ot:OT} {p:OP} {ops:List AO} {ahead:List (List Nat)} {N:Nat} {fz:Nat→Bool} {C:Ctx} {nt:Nat} {s:St} {K:St→Prop} {E:Nat→St→Prop} {R:St→Prop} {ks:List Nat} {y:AC}
theorem ay5 (h:∀ K':St→Prop,(∀ s',AWp C nt y s' K E R→K' s')→wb C.env fz s.n (fun s'=>K' ((s'.wn (s.n + N * KK)).keep ks)) p s) (h1:ops.length = N:=by rfl) (h2:okR ops ahead L ot = true:=by kernel_rfl) (h3:aaf (ris ops ahead L) ot = p:=by kernel_rfl):AWp C nt (qP ks (ayo N fz L ot p ops ahead) y) s K E R:=ao4 N fz h1 h2 h3 h
theorem ay4 (h:∀ K':St→Prop,(∀ s',K s'→K' s')→wb C.env fz s.n (fun s'=>K' (s'.wn (s.n + N * KK))) p s) (h1:ops.length = N:=by rfl) (h2:okR ops ahead L ot = true:=by kernel_rfl) (h3:aaf (ris ops ahead L) ot = p:=by kernel_rfl):AWp C nt (ayo N fz L ot p ops ahead) s K E R:=ao5 N fz h1 h2 h3 h
end
end Av
end
