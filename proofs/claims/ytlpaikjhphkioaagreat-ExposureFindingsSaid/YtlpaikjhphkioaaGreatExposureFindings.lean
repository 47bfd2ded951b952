/- ExposureFindings: for every input the law returns true; each argument reads afterwards as it read before. -/
import Derived.Test.YtlpaikjhphkioaaGreatK38
import Derived.Test.YtlpaikjhphkioaaGreatK41
import Derived.Test.YtlpaikjhphkioaaGreatK42
set_option linter.unusedVariables false
set_option linter.unusedSimpArgs false
section
namespace Go.Proofs.YtlpaikjhphkioaaGreat
open Go Av Go.RowKit Go.ChangeShapes Go.WideShapes Go.ChangeAt
set_option maxRecDepth 100000
theorem wI:Av.Own Tryz.prog 3:=⟨Tryz.f3,Tryz.func3,by decide,_,rfl⟩
theorem yD (os:Os) (started:os.Started) (H:Type) (enc:TypeId×Value→H) :
  ReturnsInHanded {} Tryz.checked os 3 .any (fun w args=>(Rows.exposureFindingsSpec.pre enc Tryz.prog Tryz.f3 [] false w args∧True)∧sizedMet enc Tryz.prog Tryz.f3 (OpenSpec.ofChange Rows.exposureFindingsSpec) false w args)
   (Rows.exposureFindingsSpec.post enc Tryz.prog Tryz.f3 false true false false):=by
 refine acw (C:=Tryz.checked) (X:=fun w=>True) (fun _ _ _ h=>h) Seat.own started (by kernel_rfl) Tryz.func3 H enc
  (ChangeSpec.witness_at (enc:=enc) (C:=Tryz.checked) (os:=os) (X:=fun w _=>True) false (ank os) #[.slice none 0 0,.agg #[.int .i64 0,.string ⟨#[]⟩,.int .i64 0,.int .i64 0,.int .i64 0,.int .i64 0,.string ⟨#[]⟩,.int .i64 0],.int .u8 0] 8 rfl (by kernel_rfl) (by kernel_rfl) (by kernel_rfl) (by kernel_rfl) (by kernel_rfl) trivial)
  Seat.kids (fun h=>Seat.full _ _ h) (Seat.small Tryz.f3.params.toList (by kernel_rfl)) rfl
  (fun ds h=>by match ds,h with|[_,_,_],_=>rfl) rfl Tryz.underlying4 ?_
 intro W args ds gs p hval hA hL hsh hz
 have hA:DataW.TrodAll enc Tryz.prog W 0 (fun _=>true) true Tryz.f3.params.toList args.toList ds p:=hA
 have hval:∀ (j:Nat) t v,Tryz.f3.params[j]? = some t→args[j]? = some v→Value.okWide Tryz.prog W .any 0 t v:=hval
 rw [Tryz.params3] at hA hval hz
 obtain ⟨v0,vs0,d0,ds0,p0,q0,hargs0,rfl,rfl,h0,g0⟩:=trodAll_cons hA
 obtain ⟨v1,vs1,d1,ds1,p1,q1,hargs1,rfl,rfl,h1,g1⟩:=trodAll_cons g0
 obtain ⟨v2,vs2,d2,ds2,p2,q2,hargs2,rfl,rfl,h2,g2⟩:=trodAll_cons g1
 obtain ⟨he,rfl,rfl⟩:=trodAll_nil g2
 obtain rfl:args = #[v0,v1,v2]:=by cases args;simp_all
 obtain ⟨a0,w0,x0,r0⟩:=apI Tryz.underlying22 Tryz.underlying3 (by kernel_rfl) (hval 0 22 v0 rfl rfl) h0
 unfold Go.maxLen at w0
 obtain ⟨w1,r1,k1⟩:=al1 (a:=.int) (show (ahX Tryz.prog (apS 3 9 24)).1 26 = true by kernel_rfl) (hval 1 26 v1 rfl rfl) h1
 have hzz:∀ x,x∈d1.weights Tryz.prog 26→x≤reachBytes:=by
  intro x hx
  have hz':=kS.1 hz x
  simp only [List.cons_append,DataW.weightsEach,zT] at hz'
  simpa using hz' (.inr (.inl hx))
 obtain ⟨a1,e1,s1,t1⟩:=aq4 (k1 hzz)
 rw [e1] at r1
 obtain ⟨a2,w2,r2⟩:=arC Tryz.underlying5 (hval 2 5 v2 rfl rfl) h2
 have b2:=bounds_u8 w2
 refine aej Seat.mix wI (@ym W ⟨⟨trivial⟩⟩ a0 a1 t1 s1 a2 b2.1 b2.2) rfl fun i h h'=>?_
 match i,h with
 | 0,_=>exact r0
 | 1,_=>exact r1
 | 2,_=>exact r2
theorem exposureFindings_row:Rows.ExposureFindingsSaid :=
 OpenClaim.holds_of_wide 3 Tryz.f3 rfl rfl rfl rfl rfl rfl rfl ⟨rfl,rfl,rfl,rfl,rfl⟩ rfl rfl rfl rfl rfl (by kernel_rfl) Tryz.func3 (by kernel_rfl)
  (ku (by kernel_rfl)) (by unfold Func.isWrapper;first|(rw [if_pos (by decide +kernel)];kernel_rfl)|(rw [if_neg (by decide +kernel)];exact ⟨rfl,rfl⟩))
  (fun os started H enc _=>by have h:=yD os started H enc;simp only [and_true] at h;exact h)
#print axioms exposureFindings_row
end Go.Proofs.YtlpaikjhphkioaaGreat
end
