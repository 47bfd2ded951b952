/- TopExplains: for every input the law returns true; each argument reads afterwards as it read before. Conditions: package-level variables as the program's text lays them (the card ties them). -/
import Derived.Test.YtjobognfgjobfaaGreatDoorK41
import Derived.Test.YtjobognfgjobfaaGreatDoorCards
import Derived.Test.YtjobognfgjobfaaGreatDoorTie
set_option linter.unusedVariables false
set_option linter.unusedSimpArgs false
section
namespace Go.Proofs.YtjobognfgjobfaaGreatDoor
open Go Av Go.RowKit Go.ChangeShapes Go.WideShapes Go.ChangeAt
set_option maxRecDepth 100000
theorem ahq:Av.Own Tryz.prog 3:=⟨Tryz.f3,Tryz.func3,by decide,_,rfl⟩
theorem adr (os:Os) (started:os.Started) (H:Type) (enc:TypeId×Value→H) :
  ReturnsInHanded {} Tryz.checked os 3 .any (fun w args=>(Rows.topExplainsSpec.pre enc Tryz.prog Tryz.f3 [] false w args∧laidMet Tryz.prog afy w)∧sizedMet enc Tryz.prog Tryz.f3 (OpenSpec.ofChange Rows.topExplainsSpec) false w args)
   (Rows.topExplainsSpec.post enc Tryz.prog Tryz.f3 false true false false):=by
 refine apN (C:=Tryz.checked) (X:=fun w=>laidMet Tryz.prog afy w) (fun _ _ hh h=>h.of_heap hh) Seat.own started (by kernel_rfl) Tryz.func3 H enc
  (ChangeSpec.witness_at (enc:=enc) (C:=Tryz.checked) (os:=os) (X:=fun w _=>laidMet Tryz.prog afy w) false (alI os) #[.slice none 0 0,.int .u8 0] 8 rfl (by kernel_rfl) (by kernel_rfl) (by kernel_rfl) (by kernel_rfl) (by kernel_rfl) (ako os _))
  Seat.kids (fun h=>Seat.full _ _ h) (Seat.small Tryz.f3.params.toList (by kernel_rfl)) rfl
  (fun ds h=>by match ds,h with|[_,_],_=>rfl) rfl Tryz.underlying4 ?_
 intro W args ds p hval hA hL hsh
 have hA:DataW.TrodAll enc Tryz.prog W 0 (fun _=>true) true Tryz.f3.params.toList args.toList ds p:=hA
 have hval:∀ (j:Nat) t v,Tryz.f3.params[j]? = some t→args[j]? = some v→Value.okWide Tryz.prog W .any 0 t v:=hval
 rw [Tryz.params3] at hA hval
 obtain ⟨v0,vs0,d0,ds0,p0,q0,hargs0,rfl,rfl,h0,g0⟩:=trodAll_cons hA
 obtain ⟨v1,vs1,d1,ds1,p1,q1,hargs1,rfl,rfl,h1,g1⟩:=trodAll_cons g0
 obtain ⟨he,rfl,rfl⟩:=trodAll_nil g1
 obtain rfl:args = #[v0,v1]:=by cases args;simp_all
 obtain ⟨a0,w0,x0,r0⟩:=auy Tryz.underlying22 Tryz.underlying3 (by kernel_rfl) (hval 0 22 v0 rfl rfl) h0
 unfold Go.maxLen at w0
 obtain ⟨a1,w1,r1⟩:=awM Tryz.underlying5 (hval 1 5 v1 rfl rfl) h1
 have b1:=bounds_u8 w1
 refine ais Seat.mix ahq (@afC W ⟨wok hL hsh⟩ a0 a1 b1.1 b1.2) rfl fun i h h'=>?_
 match i,h with
 | 0,_=>exact r0
 | 1,_=>exact r1
theorem jf1:(Rows.topExplainsRow.inPlace == Tryz.prog.inPlace 3) = true:=by kernel_rfl
theorem jf2:(Rows.topExplainsRow.unfollowed == Tryz.prog.unfollowed 3) = true:=by kernel_rfl
theorem jf3:(Rows.topExplainsRow.recurses == Tryz.prog.recurses 3) = true:=by kernel_rfl
theorem jf4:(Rows.topExplainsRow.named == Tryz.prog.varsNamed 3) = true:=by kernel_rfl
theorem jf5:laidOutB Tryz.prog = true:=by kernel_rfl
theorem jf6:mapsRowed Tryz.prog = true:=by kernel_rfl
theorem jf:joinedFacts Tryz.prog 3 Tryz.f3 Rows.topExplainsSpec Rows.topExplainsRow = true:=by
 rw [joinedFacts,jf1,jf2,jf3,jf4,jf5,jf6]
 kernel_rfl
theorem ahp:Rows.TopExplainsSaid :=
 OpenClaim.holds_of_wide 3 Tryz.f3 rfl rfl rfl rfl rfl rfl rfl ⟨rfl,rfl,rfl,rfl,rfl⟩ rfl rfl rfl rfl rfl (by kernel_rfl) Tryz.func3 jf
  (zL (by kernel_rfl)) (by unfold Func.isWrapper;first|(rw [if_pos (by decide +kernel)];kernel_rfl)|(rw [if_neg (by decide +kernel)];exact ⟨rfl,rfl⟩))
  (fun os started H enc _=>adr os started H enc)
theorem ar9 {P:Program} (h:P.funcs.any Func.goes = false) (f:FuncId):P.goes f = false:=by
 have hm:∀ g:Nat,(P.funcs[g]?).any Func.goes = false:=fun g=>by
  cases hx:P.funcs[g]? with
  | none=>rfl
  | some fn =>
    obtain ⟨h1,h2⟩:=zZ.1 hx
    have h3:=Array.any_eq_false.1 h g h1
    rw [h2] at h3
    simpa using h3
 unfold Program.goes
 rw [h,zY,Bool.or_false]
 simp only [hm]
 simp
theorem ayE {P:Program} {c:OpenClaim} (h:P.funcs.any Func.goes = false) (hs:c.start = .entering):false = c.goesBy P:=by
 have hf:P.goesFrom c.func = false:=by
  unfold Program.goesFrom
  cases P.funcNamed c.func with
  | none=>rfl
  | some f=>exact ar9 h f
 unfold OpenClaim.goesBy Program.goesAt
 rw [hf,hs];rfl
theorem jg:Tryz.prog.funcs.any Func.goes = false:=by kernel_rfl
theorem jl:true = Tryz.prog.looks []:=by kernel_rfl
theorem topExplains_card:Rows.TopExplainsCardSaid :=
 Claim7.holds_tied_plain_at .later [] [.data,.data,.data,.data,.sentinel,.sentinel,.pinned] true (true, "36212147ad4672a5a671bb89788508ea39fc888fbda131cd9a4bef1f90bd5f92") true
  ahp (fun _ h=>by cases h) (by kernel_rfl) (fun _ h=>by cases h) topExplains_row_tie rfl ⟨rfl,rfl⟩ (by kernel_rfl) rfl
  (fun f fn hf hfn=>by
    obtain rfl:f = 3:=Z3 ((show Tryz.prog.funcNamed "cipherplan/cipherplantop.TopExplains" = some 3 by kernel_rfl).symm.trans hf) |>.symm
    obtain rfl:fn = Tryz.f3:=(Z3 (Tryz.func3.symm.trans hfn)).symm
    exact ⟨jl,fun j t ht=>by
     rw [Tryz.params3] at ht
     have h3:t = 22∨t = 5:=by
      rcases j with _|_|j
      ·simp at ht;exact .inl ht.symm
      ·simp at ht;exact .inr (ht.symm)
      ·simp at ht
     rcases h3 with rfl|rfl
     ·exact (show Tryz.prog.wantsStandIn 22 = false by kernel_rfl)
     ·exact (show Tryz.prog.wantsStandIn 5 = false by kernel_rfl)
     ⟩)
  (ayE jg rfl)
#print axioms topExplains_card
end Go.Proofs.YtjobognfgjobfaaGreatDoor
end
