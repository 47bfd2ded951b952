/- ReportWhy: for every input the law returns true; each argument reads afterwards as it read before. Conditions: package-level variables as the program's text lays them (the card ties them). -/
import Derived.Test.YtddmiolapkhaoaaGreatDoorK26
import Derived.Test.YtddmiolapkhaoaaGreatDoorCards
import Derived.Test.YtddmiolapkhaoaaGreatDoorTie
set_option linter.unusedVariables false
set_option linter.unusedSimpArgs false
section
namespace Go.Proofs.YtddmiolapkhaoaaGreatDoor
open Go Av Go.RowKit Go.ChangeShapes Go.WideShapes Go.ChangeAt
set_option maxRecDepth 100000
theorem amq:Av.Own Tryz.prog 3:=⟨Tryz.f3,Tryz.func3,by decide,_,rfl⟩
theorem aiN (os:Os) (started:os.Started) (H:Type) (enc:TypeId×Value→H) :
  ReturnsInHanded {} Tryz.checked os 3 .any (fun w args=>(Rows.reportWhySpec.pre enc Tryz.prog Tryz.f3 [] false w args∧laidMet Tryz.prog ahz w)∧sizedMet enc Tryz.prog Tryz.f3 (OpenSpec.ofChange Rows.reportWhySpec) false w args)
   (Rows.reportWhySpec.post enc Tryz.prog Tryz.f3 false true false false):=by
 refine ast (C:=Tryz.checked) (X:=fun w=>laidMet Tryz.prog ahz w) (fun _ _ hh h=>h.of_heap hh) Seat.own started (by kernel_rfl) Tryz.func3 H enc
  (ChangeSpec.witness_shaped (enc:=enc) (C:=Tryz.checked) (os:=os) (X:=fun w _=>laidMet Tryz.prog ahz w) false (aon os) #[.slice none 0 0,.agg #[.int .i64 0,.string ⟨#[]⟩,.int .i64 0,.int .i64 0,.int .i64 0,.int .i64 0,.string ⟨#[]⟩,.int .i64 0],.int .u8 0,.int .u8 0] 8 rfl (World.shaped_of_RefB (by kernel_rfl) (by kernel_rfl)) (by kernel_rfl) (by kernel_rfl) (by kernel_rfl) (amK os _))
  Seat.kids (fun h=>Seat.full _ _ h) (Seat.small Tryz.f3.params.toList (by kernel_rfl)) rfl
  (fun ds h=>by match ds,h with|[_,_,_,_],_=>rfl) rfl Tryz.underlying4 ?_
 intro W args ds p hval hA hL hsh
 have hA:DataW.TrodAll enc Tryz.prog W 0 (fun _=>true) true Tryz.f3.params.toList args.toList ds p:=hA
 have hval:∀ (j:Nat) t v,Tryz.f3.params[j]? = some t→args[j]? = some v→Value.okWide Tryz.prog W .any 0 t v:=hval
 rw [Tryz.params3] at hA hval
 obtain ⟨v0,vs0,d0,ds0,p0,q0,hargs0,rfl,rfl,h0,g0⟩:=trodAll_cons hA
 obtain ⟨v1,vs1,d1,ds1,p1,q1,hargs1,rfl,rfl,h1,g1⟩:=trodAll_cons g0
 obtain ⟨v2,vs2,d2,ds2,p2,q2,hargs2,rfl,rfl,h2,g2⟩:=trodAll_cons g1
 obtain ⟨v3,vs3,d3,ds3,p3,q3,hargs3,rfl,rfl,h3,g3⟩:=trodAll_cons g2
 obtain ⟨he,rfl,rfl⟩:=trodAll_nil g3
 obtain rfl:args = #[v0,v1,v2,v3]:=by cases args;simp_all
 obtain ⟨a0,w0,x0,r0⟩:=aww Tryz.underlying22 Tryz.underlying3 (by kernel_rfl) (hval 0 22 v0 rfl rfl) h0
 unfold Go.maxLen at w0
 obtain ⟨w1,r1,k1⟩:=asZ (a:=.int) (show (arq Tryz.prog (awE 3 9 24)).1 26 = true by kernel_rfl) (hval 1 26 v1 rfl rfl) h1
 obtain ⟨a1,e1⟩:=axL k1
 rw [e1] at r1
 obtain ⟨a2,w2,r2⟩:=au6 Tryz.underlying5 (hval 2 5 v2 rfl rfl) h2
 have b2:=bounds_u8 w2
 obtain ⟨a3,w3,r3⟩:=au6 Tryz.underlying5 (hval 3 5 v3 rfl rfl) h3
 have b3:=bounds_u8 w3
 refine aqw Seat.mix amq (@ahJ W ⟨wok hL hsh⟩ a0 a1 a2 a3 b2.1 b2.2 b3.1 b3.2) rfl fun i h h'=>?_
 match i,h with
 | 0,_=>exact r0
 | 1,_=>exact r1
 | 2,_=>exact r2
 | 3,_=>exact r3
theorem amp:Rows.ReportWhySaid :=
 OpenClaim.holds_of_wide 3 Tryz.f3 rfl rfl rfl rfl rfl rfl rfl ⟨rfl,rfl,rfl,rfl,rfl⟩ rfl rfl rfl rfl rfl (by kernel_rfl) Tryz.func3 (by kernel_rfl)
  (zV (by kernel_rfl)) (by unfold Func.isWrapper;first|(rw [if_pos (by decide +kernel)];kernel_rfl)|(rw [if_neg (by decide +kernel)];exact ⟨rfl,rfl⟩))
  (fun os started H enc _=>aiN os started H enc)
theorem reportWhy_card:Rows.ReportWhyCardSaid :=
 Claim7.holds_tied_plain_at .later [] [.data,.data,.data,.listed,.data] true (true, "f392f974e386e594a6f0dc60961096d9f7de995c011f176b00040a5dc1905598") false
  amp (fun _ h=>by cases h) (by kernel_rfl) (fun _ h=>by cases h) reportWhy_row_tie rfl ⟨rfl,rfl⟩ (by kernel_rfl) rfl
  (fun f fn hf hfn=>by
    obtain rfl:f = 3:=kQ ((show Tryz.prog.funcNamed "cipherplan/cipherplanlaw43.ReportWhy" = some 3 by kernel_rfl).symm.trans hf) |>.symm
    obtain rfl:fn = Tryz.f3:=(kQ (Tryz.func3.symm.trans hfn)).symm
    exact ⟨by kernel_rfl,fun j t ht=>by
     rw [Tryz.params3] at ht
     have h3:t = 22∨t = 26∨t = 5∨t = 5:=by
      rcases j with _|_|_|_|j
      ·simp at ht;exact .inl ht.symm
      ·simp at ht;exact .inr (.inl ht.symm)
      ·simp at ht;exact .inr (.inr (.inl ht.symm))
      ·simp at ht;exact .inr (.inr (.inr (ht.symm)))
      ·simp at ht
     rcases h3 with rfl|rfl|rfl|rfl
     ·exact (show Tryz.prog.wantsStandIn 22 = false by kernel_rfl)
     ·exact (show Tryz.prog.wantsStandIn 26 = false by kernel_rfl)
     ·exact (show Tryz.prog.wantsStandIn 5 = false by kernel_rfl)
     ·exact (show Tryz.prog.wantsStandIn 5 = false by kernel_rfl)
     ⟩)
  (by kernel_rfl)
#print axioms reportWhy_card
end Go.Proofs.YtddmiolapkhaoaaGreatDoor
end
