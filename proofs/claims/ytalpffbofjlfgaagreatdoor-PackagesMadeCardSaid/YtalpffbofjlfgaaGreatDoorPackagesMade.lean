/- PackagesMade: for every input the law returns true; each argument reads afterwards as it read before. Conditions: package-level variables as the program's text lays them (the card ties them). -/
import Derived.Test.YtalpffbofjlfgaaGreatDoorK19
import Derived.Test.YtalpffbofjlfgaaGreatDoorK26
import Derived.Test.YtalpffbofjlfgaaGreatDoorCards
import Derived.Test.YtalpffbofjlfgaaGreatDoorTie
set_option linter.unusedVariables false
set_option linter.unusedSimpArgs false
section
namespace Go.Proofs.YtalpffbofjlfgaaGreatDoor
open Go Av Go.RowKit Go.ChangeShapes Go.WideShapes Go.ChangeAt
set_option maxRecDepth 100000
theorem adw:Own Tryz.prog 4:=⟨Tryz.f4,Tryz.func4,by decide,_,rfl⟩
theorem aaN (os:Os) (started:os.Started) (H:Type) (enc:TypeId×Value→H) :
    ReturnsInHanded {} Tryz.checked os 4 .any (fun w args=>(Rows.packagesMadeSpec.pre enc Tryz.prog Tryz.f4 [] false w args∧laidMet Tryz.prog ac4 w)∧sizedMet enc Tryz.prog Tryz.f4 (OpenSpec.ofChange Rows.packagesMadeSpec) false w args)
      (Rows.packagesMadeSpec.post enc Tryz.prog Tryz.f4 false true false false):=by
  refine akp (C:=Tryz.checked) (X:=fun w=>laidMet Tryz.prog ac4 w) (fun _ _ hh h=>h.of_heap hh) Seat.own started (by kernel_rfl) Tryz.func4 H enc
    (ChangeSpec.witness_at (enc:=enc) (C:=Tryz.checked) (os:=os) (X:=fun w _=>laidMet Tryz.prog ac4 w) false (aho os) #[.slice none 0 0,.string ⟨#[]⟩] 8 rfl (by kernel_rfl) (by kernel_rfl) (by kernel_rfl) (by kernel_rfl) (by kernel_rfl) (agx os _))
    Seat.kids (fun h=>Seat.full _ _ h) (Seat.small Tryz.f4.params.toList (by kernel_rfl)) rfl
    (fun ds h=>by match ds,h with|[_,_],_=>rfl) rfl Tryz.underlying4 ?_
  intro W args ds p hval hA hL hsh
  have hA:DataW.TrodAll enc Tryz.prog W 0 (fun _=>true) true Tryz.f4.params.toList args.toList ds p:=hA
  have hval:∀ (j:Nat) t v,Tryz.f4.params[j]? = some t→args[j]? = some v→Value.okWide Tryz.prog W .any 0 t v:=hval
  rw [Tryz.params4] at hA hval
  obtain ⟨v0,vs0,d0,ds0,p0,q0,hargs0,rfl,rfl,h0,g0⟩:=trodAll_cons hA
  obtain ⟨v1,vs1,d1,ds1,p1,q1,hargs1,rfl,rfl,h1,g1⟩:=trodAll_cons g0
  obtain ⟨he,rfl,rfl⟩:=trodAll_nil g1
  obtain rfl:args = #[v0,v1]:=by cases args;simp_all
  obtain ⟨a0,w0,x0,r0⟩:=anz Tryz.underlying22 Tryz.underlying3 (by kernel_rfl) (hval 0 22 v0 rfl rfl) h0
  unfold Go.maxLen at w0
  obtain ⟨a1,w1,r1⟩:=akR Tryz.underlying9 (hval 1 9 v1 rfl rfl) h1
  unfold Go.maxLen at w1
  refine aiV Seat.mix adw (aar W (wok hL hsh) a0 a1 ) rfl fun i h h'=>?_
  match i,h with
  | 0,_=>exact r0
  | 1,_=>exact r1
theorem adv:Rows.PackagesMadeSaid :=
  OpenClaim.holds_of_wide 4 Tryz.f4 rfl rfl rfl rfl rfl rfl rfl ⟨rfl,rfl,rfl,rfl,rfl⟩ rfl rfl rfl rfl rfl (by kernel_rfl) Tryz.func4 (by kernel_rfl)
    (of_decide_eq_true (by kernel_rfl)) (by unfold Func.isWrapper;first|(rw [if_pos (by decide +kernel)];kernel_rfl)|(rw [if_neg (by decide +kernel)];exact ⟨rfl,rfl⟩))
    (fun os started H enc _=>aaN os started H enc)
theorem packagesMade_card:Rows.PackagesMadeCardSaid :=
  Claim7.holds_tied_plain_at .later [] [.data,.data,.data,.data,.sentinel,.sentinel,.pinned] true (true, "8753e5862a72c8e58a9171d5e55daea90b8f6699036fd0dc6fea06a5c6ec0ad2") true
    adv (fun _ h=>by cases h) (by kernel_rfl) (fun _ h=>by cases h) packagesMade_row_tie rfl ⟨rfl,rfl⟩ (by kernel_rfl) rfl
    (fun f fn hf hfn=>by
      obtain rfl:f = 4:=Option.some.inj ((show Tryz.prog.funcNamed "cipherplan/cipherplanlaw12.PackagesMade" = some 4 by kernel_rfl).symm.trans hf) |>.symm
      obtain rfl:fn = Tryz.f4:=(Option.some.inj (Tryz.func4.symm.trans hfn)).symm
      exact ⟨by kernel_rfl,fun j t ht=>by
        rw [Tryz.params4] at ht
        have h3:t = 22∨t = 9:=by
          rcases j with _|_|j
          · simp at ht;exact .inl ht.symm
          · simp at ht;exact .inr (ht.symm)
          · simp at ht
        rcases h3 with rfl|rfl
        · exact (show Tryz.prog.wantsStandIn 22 = false by kernel_rfl)
        · exact (show Tryz.prog.wantsStandIn 9 = false by kernel_rfl)
        ⟩)
    (by kernel_rfl)
#print axioms packagesMade_card
end Go.Proofs.YtalpffbofjlfgaaGreatDoor
end
