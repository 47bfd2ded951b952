/- strings.FieldsFunc at blanks: what it answers, byte by byte. -/
import Derived.Test.YtphclkkggijicaaGreatDoorK25
import Derived.Shelf.Strings.FieldsFuncGrows
import Derived.Lib.SpaceUEq
set_option linter.unusedVariables false
set_option linter.unusedSimpArgs false
section
namespace Av
open Go Go.Lib
set_option linter.unusedVariables false
def isB (x:Nat):Bool:=x == 32
theorem ahh:∀ (w:Nat) (l cur:List UInt8),w≤l.length→(∀ j,j < w→l[j]?≠some 32)→aac l cur = aac (l.drop w) (cur++l.take w)
 | 0,l,cur,_,_=>by simp
 | w + 1,[],cur,h,_=>by simp at h
 | w + 1,c :: r,cur,h,hn=>by
   have hc:c≠32:=fun e=>hn 0 (by omega) (by simp [e])
   rw [aac,if_neg hc,ahh w r (cur++[c]) (by simpa using h) (fun j hj=>by have:=hn (j + 1) (by omega);simpa using this)]
   simp
def ad9 (s:List UInt8) (x:Nat×Nat):List UInt8:=(s.take x.2).drop x.1
def ajm (s:List UInt8) (pos:Nat):Option Nat→List UInt8
 | some a=>(s.take pos).drop a
 | none=>[]
theorem aqD (s:List UInt8) (i:Nat):((⟨s.toArray⟩:ByteArray).get! i) = s.getD i 0:=by
 show (s.toArray[i]!) = _
 simp [zq,getElem!_def]
 cases s[i]?<;>rfl
theorem ao7 {s:List UInt8} {pos:Nat} (h:pos < s.length):(s[pos]? = some 32→Utf8.decode ⟨s.toArray⟩ pos = (32,1)) ∧
  (s[pos]?≠some 32→isB (Utf8.decode ⟨s.toArray⟩ pos).1 = false∧1≤(Utf8.decode ⟨s.toArray⟩ pos).2∧pos + (Utf8.decode ⟨s.toArray⟩ pos).2≤s.length∧∀ j,j < (Utf8.decode ⟨s.toArray⟩ pos).2→s[pos + j]?≠some 32):=by
 rw [decode_at]
 have hs:(⟨s.toArray⟩:ByteArray).size = s.length:=KJ s
 simp only [aqD,hs]
 have hg:∀ i,i < s.length→s[i]? = some (s.getD i 0):=fun i hi=>by
  rw [zq,ze hi];rfl
 have h32:∀ i,i < s.length→(s.getD i 0).toNat≠32→s[i]?≠some 32:=fun i hi hne he=>by
  rw [hg i hi] at he
  exact hne (by rw [kK he];rfl)
 refine ⟨fun hc=>?_,fun hc=>?_⟩
 ·have hb:(s.getD pos 0).toNat = 32:=by
   rw [zq,hc];rfl
  rw [hb];rfl
 ·have hb:(s.getD pos 0).toNat≠32:=fun e=>hc (by
   rw [hg pos h];congr 1;exact UInt8.toNat_inj.1 e)
  have h1:=decodeN_cases (s.length - pos) (s.getD pos 0).toNat (s.getD (pos + 1) 0).toNat (s.getD (pos + 2) 0).toNat (s.getD (pos + 3) 0).toNat
  have h2:=decodeN_conts (s.length - pos) (s.getD pos 0).toNat (s.getD (pos + 1) 0).toNat (s.getD (pos + 2) 0).toNat (s.getD (pos + 3) 0).toNat
  have h3:=decodeN_ge1 (s.length - pos) (s.getD pos 0).toNat (s.getD (pos + 1) 0).toNat (s.getD (pos + 2) 0).toNat (s.getD (pos + 3) 0).toNat
  generalize decodeN (s.length - pos) (s.getD pos 0).toNat (s.getD (pos + 1) 0).toNat (s.getD (pos + 2) 0).toNat (s.getD (pos + 3) 0).toNat = q at *
  obtain ⟨c2,c3,c4,c5⟩:=h2
  refine ⟨?_,h3,?_,fun j hj=>?_⟩
  ·have:q.1≠32:=by
    rcases h1 with ⟨_,h⟩|⟨_,_,_,h',h⟩|⟨_,_,_,_,h',h⟩|⟨h,_⟩|h
    ·rw [h];exact hb
    ·rw [h];simp only;omega
    ·rw [h];simp only;omega
    ·omega
    ·rw [h];decide
   simpa [isB] using this
  ·by_cases a4:4≤q.2
   ·have:=(c4 a4).2;omega
   ·by_cases a3:3≤q.2
    ·have:=(c3 a3).2;omega
    ·by_cases a2:2≤q.2
     ·have:=(c2 a2).2;omega
     ·omega
  ·rcases (by omega:j = 0∨j = 1∨j = 2∨j = 3) with rfl|rfl|rfl|rfl
   ·exact hc
   ·have:=c2 (by omega);exact h32 _ (by omega) (by omega)
   ·have:=c3 (by omega);exact h32 _ (by omega) (by omega)
   ·have:=c4 (by omega);exact h32 _ (by omega) (by omega)
theorem ajl {s:List UInt8} {pos w a:Nat} (ha:a≤pos) (h:pos + w≤s.length):(s.take (pos + w)).drop a = (s.take pos).drop a++(s.drop pos).take w:=by
 rw [List.take_add,km (by simp;omega)]
theorem ak4 {s:List UInt8}:∀ (f pos:Nat) (st:Option Nat) (acc:List (Nat×Nat)),s.length≤pos + f→pos≤s.length→(∀ a,st = some a→a < pos) →
  (closeSpans ⟨s.toArray⟩ (spansFromP isB ⟨s.toArray⟩ f pos st acc)).map (ad9 s) = acc.map (ad9 s)++aac (s.drop pos) (ajm s pos st):=by
 have hs:(⟨s.toArray⟩:ByteArray).size = s.length:=KJ s
 have hend:∀ (pos:Nat) (st:Option Nat) (acc:List (Nat×Nat)),pos = s.length→(∀ a,st = some a→a < pos)→(closeSpans ⟨s.toArray⟩ (acc,st)).map (ad9 s) = acc.map (ad9 s)++aac (s.drop pos) (ajm s pos st):=by
  rintro pos st acc rfl hst
  rw [List.drop_length,aac]
  rcases st with _|a
  ·simp [closeSpans,ajm]
  ·have:=hst a rfl
   have hne:ajm s s.length (some a)≠[]:=fun e=>by
    have:=congrArg List.length e
    simp [ajm] at this;omega
   rw [if_neg hne]
   simp [closeSpans,ajm,ad9,hs]
 intro f
 induction f with
 | zero =>
   intro pos st acc h1 h2 h3
   unfold spansFromP
   exact hend pos st acc (by omega) h3
 | succ f ih =>
   intro pos st acc h1 h2 h3
   by_cases hp:pos < s.length
   ·have hp':pos < (⟨s.toArray⟩:ByteArray).size:=by rw [hs];exact hp
    obtain ⟨r1,r2⟩:=ao7 hp
    unfold spansFromP
    rw [if_pos hp']
    have hd:s.drop pos = s[pos] :: s.drop (pos + 1):=zM hp
    have hg:s[pos]? = some s[pos]:=ze hp
    by_cases hc:s[pos]? = some 32
    ·have h32:s[pos] = 32:=by rw [hg] at hc;exact kK hc
     rw [r1 hc,if_pos (by rfl),hd,aac,if_pos h32]
     rcases st with _|a
     ·rw [show ajm s pos none = [] from rfl,if_pos rfl]
      exact ih (pos + 1) none acc (by omega) (by omega) (fun a h=>by cases h)
     ·have ha:=h3 a rfl
      have hne:ajm s pos (some a)≠[]:=fun e=>by
       have:=congrArg List.length e
       simp [ajm] at this;omega
      rw [if_neg hne]
      have:=ih (pos + 1) none (acc++[(a,pos)]) (by omega) (by omega) (fun a h=>by cases h)
      simp only
      rw [this,zD,zP];rfl
    ·obtain ⟨e1,e2,e3,e4⟩:=r2 hc
     generalize Utf8.decode ⟨s.toArray⟩ pos = q at *
     rw [if_neg (by rw [e1];decide),ahh q.2 (s.drop pos) _ (by simp;omega) (fun j hj=>by rw [List.getElem?_drop];exact e4 j hj),Zf]
     rcases st with _|a
     ·have:=ih (pos + q.2) (some pos) acc (by omega) e3 (fun a h=>by cases h;omega)
      simp only
      rw [this,show ajm s (pos + q.2) (some pos) = ajm s pos none++(s.drop pos).take q.2 from by
       show (s.take (pos + q.2)).drop pos = _
       rw [ajl (zi _) e3,zX (by rw [zJ];omega)];rfl]
     ·have ha:=h3 a rfl
      have:=ih (pos + q.2) (some a) acc (by omega) e3 (fun b h=>by cases h;omega)
      simp only
      rw [this,show ajm s (pos + q.2) (some a) = ajm s pos (some a)++(s.drop pos).take q.2 from ajl (by omega) e3]
   ·rw [spansFromP_end _ _ _ _ _ _ (by rw [hs];exact hp)]
    exact hend pos st acc (by omega) h3
theorem ae2 (s:List UInt8):goFieldsP isB ⟨s.toArray⟩ = (J7 s).map fun t=>(⟨t.toArray⟩:ByteArray):=by
 have h:=ak4 (s:=s) s.length 0 none [] (by omega) (zu _) (fun a h=>by cases h)
 rw [zo,List.nil_append,ku] at h
 have hs:(⟨s.toArray⟩:ByteArray).size = s.length:=KJ s
 rw [J7,show ([]:List UInt8) = ajm s 0 none from rfl,← h,goFieldsP,spansOfP,hs,List.map_map]
 refine ki fun x _=>?_
 show ByteArray.extract _ _ _ = _
 rw [ak2]
 simp only [ad9,Function.comp,Ze]
end Av
end
