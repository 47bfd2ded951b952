/- GonePossible: for every input the law returns true; each argument reads afterwards as it read before. -/
import Derived.Test.YtjolhibbihejgaaGreatK43
import Derived.Test.YtjolhibbihejgaaGreatK46
set_option linter.unusedVariables false
set_option linter.unusedSimpArgs false
section
namespace Go.Proofs.YtjolhibbihejgaaGreat
open Go Av Go.RowKit Go.ChangeShapes Go.WideShapes Go.ChangeAt
set_option maxRecDepth 100000
theorem adC:Av.Own Tryz.prog 3:=⟨Tryz.f3,Tryz.func3,by decide,_,rfl⟩
theorem aai (os:Os) (started:os.Started) (H:Type) (enc:TypeId×Value→H) :
  ReturnsInHanded {} Tryz.checked os 3 .any (fun w args=>(Rows.gonePossibleSpec.pre enc Tryz.prog Tryz.f3 [] false w args∧True)∧sizedMet enc Tryz.prog Tryz.f3 (OpenSpec.ofChange Rows.gonePossibleSpec) false w args)
   (Rows.gonePossibleSpec.post enc Tryz.prog Tryz.f3 false true false false):=by
 refine amc (C:=Tryz.checked) (X:=fun w=>True) (fun _ _ _ h=>h) Seat.own started (by kernel_rfl) Tryz.func3 H enc
  (ChangeSpec.witness_at (enc:=enc) (C:=Tryz.checked) (os:=os) (X:=fun w _=>True) false (an0 os) #[.slice none 0 0] 8 rfl (by kernel_rfl) (by kernel_rfl) (by kernel_rfl) (by kernel_rfl) (by kernel_rfl) trivial)
  Seat.kids (fun h=>Seat.full _ _ h) (Seat.small Tryz.f3.params.toList (by kernel_rfl)) rfl
  (fun ds h=>by match ds,h with|[_],_=>rfl) rfl Tryz.underlying4 ?_
 intro W args ds p hval hA hL hsh
 have hA:DataW.TrodAll enc Tryz.prog W 0 (fun _=>true) true Tryz.f3.params.toList args.toList ds p:=hA
 have hval:∀ (j:Nat) t v,Tryz.f3.params[j]? = some t→args[j]? = some v→Value.okWide Tryz.prog W .any 0 t v:=hval
 rw [Tryz.params3] at hA hval
 obtain ⟨v0,vs0,d0,ds0,p0,q0,hargs0,rfl,rfl,h0,g0⟩:=trodAll_cons hA
 obtain ⟨he,rfl,rfl⟩:=trodAll_nil g0
 obtain rfl:args = #[v0]:=by cases args;simp_all
 obtain ⟨a0,w0,x0,r0⟩:=aqn Tryz.underlying22 Tryz.underlying3 (by kernel_rfl) (hval 0 22 v0 rfl rfl) h0
 unfold Go.maxLen at w0
 refine akk Seat.mix adC (@vS W ⟨⟨trivial⟩⟩ a0) rfl fun i h h'=>?_
 match i,h with
 | 0,_=>exact r0
theorem gonePossible_row:Rows.GonePossibleSaid :=
 OpenClaim.holds_of_wide 3 Tryz.f3 rfl rfl rfl rfl rfl rfl rfl ⟨rfl,rfl,rfl,rfl,rfl⟩ rfl rfl rfl rfl rfl (by kernel_rfl) Tryz.func3 (by kernel_rfl)
  (kh (by kernel_rfl)) (by unfold Func.isWrapper;first|(rw [if_pos (by decide +kernel)];kernel_rfl)|(rw [if_neg (by decide +kernel)];exact ⟨rfl,rfl⟩))
  (fun os started H enc _=>by have h:=aai os started H enc;simp only [and_true] at h;exact h)
#print axioms gonePossible_row
end Go.Proofs.YtjolhibbihejgaaGreat
end
