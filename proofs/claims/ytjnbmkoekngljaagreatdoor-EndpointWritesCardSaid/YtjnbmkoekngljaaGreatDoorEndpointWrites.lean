/- EndpointWrites: for every input the law returns true; each argument reads afterwards as it read before. Conditions: package-level variables as the program's text lays them (the card ties them). -/
import Derived.Test.YtjnbmkoekngljaaGreatDoorK18
import Derived.Test.YtjnbmkoekngljaaGreatDoorK24
import Derived.Test.YtjnbmkoekngljaaGreatDoorCards
import Derived.Test.YtjnbmkoekngljaaGreatDoorTie
set_option linter.unusedVariables false
set_option linter.unusedSimpArgs false
section
namespace Go.Proofs.YtjnbmkoekngljaaGreatDoor
open Go Av Go.RowKit Go.ChangeShapes Go.WideShapes Go.ChangeAt
set_option maxRecDepth 100000
theorem ahI:Own Tryz.prog 3:=⟨Tryz.f3,Tryz.func3,by decide,_,rfl⟩
theorem adH (os:Os) (started:os.Started) (H:Type) (enc:TypeId×Value→H) :
  ReturnsInHanded {} Tryz.checked os 3 .any (fun w args=>(Rows.endpointWritesSpec.pre enc Tryz.prog Tryz.f3 [] false w args∧laidMet Tryz.prog aiP w)∧sizedMet enc Tryz.prog Tryz.f3 (OpenSpec.ofChange Rows.endpointWritesSpec) false w args)
   (Rows.endpointWritesSpec.post enc Tryz.prog Tryz.f3 false true false false):=by
 refine arT (C:=Tryz.checked) (X:=fun w=>laidMet Tryz.prog aiP w) (fun _ _ hh h=>h.of_heap hh) Seat.own started (by kernel_rfl) Tryz.func3 H enc
  (ChangeSpec.witness_at (enc:=enc) (C:=Tryz.checked) (os:=os) (X:=fun w _=>laidMet Tryz.prog aiP w) false (aoG os) #[.slice none 0 0,.int .u8 0] 8 rfl (by kernel_rfl) (by kernel_rfl) (by kernel_rfl) (by kernel_rfl) (by kernel_rfl) (ank os _))
  Seat.kids (fun h=>Seat.full _ _ h) (Seat.small Tryz.f3.params.toList (by kernel_rfl)) rfl
  (fun ds h=>by match ds,h with|[_,_],_=>rfl) rfl Tryz.underlying4 ?_
 intro W args ds p hval hA hL hsh
 have hA:DataW.TrodAll enc Tryz.prog W 0 (fun _=>true) true Tryz.f3.params.toList args.toList ds p:=hA
 have hval:∀ (j:Nat) t v,Tryz.f3.params[j]? = some t→args[j]? = some v→Value.okWide Tryz.prog W .any 0 t v:=hval
 rw [Tryz.params3] at hA hval
 obtain ⟨v0,vs0,d0,ds0,p0,q0,hargs0,rfl,rfl,h0,g0⟩:=trodAll_cons hA
 obtain ⟨v1,vs1,d1,ds1,p1,q1,hargs1,rfl,rfl,h1,g1⟩:=trodAll_cons g0
 obtain ⟨he,rfl,rfl⟩:=trodAll_nil g1
 obtain rfl:args = #[v0,v1]:=by cases args;simp_all
 obtain ⟨a0,w0,x0,r0⟩:=avq Tryz.underlying22 Tryz.underlying3 (by kernel_rfl) (hval 0 22 v0 rfl rfl) h0
 unfold Go.maxLen at w0
 obtain ⟨a1,w1,r1⟩:=aw0 Tryz.underlying5 (hval 1 5 v1 rfl rfl) h1
 have b1:=bounds_u8 w1
 refine aqi Seat.mix ahI (acY W (wok hL hsh) a0 a1 b1.1 b1.2) rfl fun i h h'=>?_
 match i,h with
 | 0,_=>exact r0
 | 1,_=>exact r1
theorem ahH:Rows.EndpointWritesSaid :=
 OpenClaim.holds_of_wide 3 Tryz.f3 rfl rfl rfl rfl rfl rfl rfl ⟨rfl,rfl,rfl,rfl,rfl⟩ rfl rfl rfl rfl rfl (by kernel_rfl) Tryz.func3 (by kernel_rfl)
  (of_decide_eq_true (by kernel_rfl)) (by unfold Func.isWrapper;first|(rw [if_pos (by decide +kernel)];kernel_rfl)|(rw [if_neg (by decide +kernel)];exact ⟨rfl,rfl⟩))
  (fun os started H enc _=>adH os started H enc)
theorem endpointWrites_card:Rows.EndpointWritesCardSaid :=
 Claim7.holds_tied_plain_at .later [] [.data,.data,.data,.data,.sentinel,.sentinel,.pinned] true (true, "40973eb6fde68411a72cca1aa42905d625f10e36357dfa4e6f6d9145d83daaf7") true
  ahH (fun _ h=>by cases h) (by kernel_rfl) (fun _ h=>by cases h) endpointWrites_row_tie rfl ⟨rfl,rfl⟩ (by kernel_rfl) rfl
  (fun f fn hf hfn=>by
    obtain rfl:f = 3:=Option.some.inj ((show Tryz.prog.funcNamed "cipherplan/cipherplanlaw09.EndpointWrites" = some 3 by kernel_rfl).symm.trans hf) |>.symm
    obtain rfl:fn = Tryz.f3:=(Option.some.inj (Tryz.func3.symm.trans hfn)).symm
    exact ⟨by kernel_rfl,fun j t ht=>by
     rw [Tryz.params3] at ht
     have h3:t = 22∨t = 5:=by
      rcases j with _|_|j
      ·simp at ht;exact .inl ht.symm
      ·simp at ht;exact .inr (ht.symm)
      ·simp at ht
     rcases h3 with rfl|rfl
     ·exact (show Tryz.prog.wantsStandIn 22 = false by kernel_rfl)
     ·exact (show Tryz.prog.wantsStandIn 5 = false by kernel_rfl)
     ⟩)
  (by kernel_rfl)
#print axioms endpointWrites_card
end Go.Proofs.YtjnbmkoekngljaaGreatDoor
end
