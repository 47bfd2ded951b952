/- ExposureWeak: for every input the law returns true; each argument reads afterwards as it read before. -/
import Derived.Test.YtlpaikjhphkioaaGreatW39
import Derived.Test.YtlpaikjhphkioaaGreatW42
set_option linter.unusedVariables false
set_option linter.unusedSimpArgs false
section
namespace Go.Proofs.YtlpaikjhphkioaaGreat
open Go Av Go.RowKit Go.ChangeShapes Go.WideShapes Go.ChangeAt
set_option maxRecDepth 100000
theorem aaV:Av.Own Tryz.prog 5:=⟨Tryz.f5,Tryz.func5,by decide,_,rfl⟩
theorem yZ (os:Os) (started:os.Started) (H:Type) (enc:TypeId×Value→H) :
  ReturnsInHanded {} Tryz.checked os 5 .any (fun w args=>(Rows.exposureWeakSpec.pre enc Tryz.prog Tryz.f5 [] false w args∧True)∧sizedMet enc Tryz.prog Tryz.f5 (OpenSpec.ofChange Rows.exposureWeakSpec) false w args)
   (Rows.exposureWeakSpec.post enc Tryz.prog Tryz.f5 false true false false):=by
 refine ajw (C:=Tryz.checked) (X:=fun w=>True) (fun _ _ _ h=>h) Seat.own started (by kernel_rfl) Tryz.func5 H enc
  (ChangeSpec.witness_at (enc:=enc) (C:=Tryz.checked) (os:=os) (X:=fun w _=>True) false (ak6 os) #[.slice none 0 0] 8 rfl (by kernel_rfl) (by kernel_rfl) (by kernel_rfl) (by kernel_rfl) (by kernel_rfl) trivial)
  Seat.kids (fun h=>Seat.full _ _ h) (Seat.small Tryz.f5.params.toList (by kernel_rfl)) rfl
  (fun ds h=>by match ds,h with|[_],_=>rfl) rfl Tryz.underlying4 ?_
 intro W args ds p hval hA hL hsh
 have hA:DataW.TrodAll enc Tryz.prog W 0 (fun _=>true) true Tryz.f5.params.toList args.toList ds p:=hA
 have hval:∀ (j:Nat) t v,Tryz.f5.params[j]? = some t→args[j]? = some v→Value.okWide Tryz.prog W .any 0 t v:=hval
 rw [Tryz.params5] at hA hval
 obtain ⟨v0,vs0,d0,ds0,p0,q0,hargs0,rfl,rfl,h0,g0⟩:=trodAll_cons hA
 obtain ⟨he,rfl,rfl⟩:=trodAll_nil g0
 obtain rfl:args = #[v0]:=by cases args;simp_all
 obtain ⟨a0,w0,x0,r0⟩:=anx Tryz.underlying22 Tryz.underlying3 (by kernel_rfl) (hval 0 22 v0 rfl rfl) h0
 unfold Go.maxLen at w0
 refine acH Seat.mix aaV (@yM W ⟨⟨trivial⟩⟩ a0 ) rfl fun i h h'=>?_
 match i,h with
 | 0,_=>exact r0
theorem exposureWeak_row:Rows.ExposureWeakSaid :=
 OpenClaim.holds_of_wide 5 Tryz.f5 rfl rfl rfl rfl rfl rfl rfl ⟨rfl,rfl,rfl,rfl,rfl⟩ rfl rfl rfl rfl rfl (by kernel_rfl) Tryz.func5 (by kernel_rfl)
  (kr (by kernel_rfl)) (by unfold Func.isWrapper;first|(rw [if_pos (by decide +kernel)];kernel_rfl)|(rw [if_neg (by decide +kernel)];exact ⟨rfl,rfl⟩))
  (fun os started H enc _=>by have h:=yZ os started H enc;simp only [and_true] at h;exact h)
#print axioms exposureWeak_row
end Go.Proofs.YtlpaikjhphkioaaGreat
end
