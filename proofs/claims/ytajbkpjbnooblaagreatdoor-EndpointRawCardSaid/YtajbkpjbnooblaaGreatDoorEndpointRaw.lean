/- EndpointRaw: for every input the law returns true; each argument reads afterwards as it read before. Conditions: package-level variables as the program's text lays them (the card ties them). -/
import Derived.Test.YtajbkpjbnooblaaGreatDoorK18
import Derived.Test.YtajbkpjbnooblaaGreatDoorK23
import Derived.Test.YtajbkpjbnooblaaGreatDoorK24
import Derived.Test.YtajbkpjbnooblaaGreatDoorCards
import Derived.Test.YtajbkpjbnooblaaGreatDoorTie
set_option linter.unusedVariables false
set_option linter.unusedSimpArgs false
section
namespace Go.Proofs.YtajbkpjbnooblaaGreatDoor
open Go Av Go.RowKit Go.ChangeShapes Go.WideShapes Go.ChangeAt
set_option maxRecDepth 100000
def shE:Sh:=(arW 3 9 4 22 57 23 (ahX 3 54 72 55 (ag0 3 9 4 54 26 70)))
theorem aog:(ajR Tryz.prog shE).1 25 = true:=by kernel_rfl
theorem aqW:(ajR Tryz.prog (.sl 9 .str)).1 26 = true:=by kernel_rfl
theorem aiH:Own Tryz.prog 3:=⟨Tryz.f3,Tryz.func3,by decide,_,rfl⟩
theorem afR (os:Os) (started:os.Started) (H:Type) (enc:TypeId×Value→H) :
  ReturnsInHanded {} Tryz.checked os 3 .any (fun w args=>(Rows.endpointRawSpec.pre enc Tryz.prog Tryz.f3 [] false w args∧laidMet Tryz.prog agJ w)∧sizedMet enc Tryz.prog Tryz.f3 (OpenSpec.ofChange Rows.endpointRawSpec) false w args)
   (Rows.endpointRawSpec.post enc Tryz.prog Tryz.f3 false true false false):=by
 refine ahe (C:=Tryz.checked) (X:=fun w=>laidMet Tryz.prog agJ w) (fun _ _ hh h=>h.of_heap hh) Seat.own started (by kernel_rfl) Tryz.func3 H enc
  (ChangeSpec.witness_at (enc:=enc) (C:=Tryz.checked) (os:=os) (X:=fun w _=>laidMet Tryz.prog agJ w) false (alc os) #[.agg #[.string ⟨#[]⟩,.int .i64 0,.int .i64 0,.slice none 0 0,.bool false,.slice none 0 0,.slice none 0 0,.slice none 0 0,.bool false],.agg #[.string ⟨#[]⟩,.int .i64 0,.int .i64 0,.slice none 0 0,.bool false,.slice none 0 0,.slice none 0 0,.slice none 0 0,.bool false],.slice none 0 0] 8 rfl (by kernel_rfl) (by kernel_rfl) (by kernel_rfl) (by kernel_rfl) (by kernel_rfl) (akk os _))
  Seat.kids (fun h=>Seat.full _ _ h) (Seat.small Tryz.f3.params.toList (by kernel_rfl)) rfl
  (fun ds h=>by match ds,h with|[_,_,_],_=>rfl) rfl Tryz.underlying4 ?_
 intro W args ds gs p hval hA hL hsh hz
 have hA:DataW.TrodAll enc Tryz.prog W 0 (fun _=>true) true Tryz.f3.params.toList args.toList ds p:=hA
 have hval:∀ (j:Nat) t v,Tryz.f3.params[j]? = some t→args[j]? = some v→Value.okWide Tryz.prog W .any 0 t v:=hval
 rw [Tryz.params3] at hA hval hz
 obtain ⟨v0,vs0,d0,ds0,p0,q0,hargs0,rfl,rfl,h0,g0⟩:=trodAll_cons hA
 obtain ⟨v1,vs1,d1,ds1,p1,q1,hargs1,rfl,rfl,h1,g1⟩:=trodAll_cons g0
 obtain ⟨v2,vs2,d2,ds2,p2,q2,hargs2,rfl,rfl,h2,g2⟩:=trodAll_cons g1
 obtain ⟨he,rfl,rfl⟩:=trodAll_nil g2
 obtain rfl:args = #[v0,v1,v2]:=by cases args;simp_all
 have hzz:∀ x,(x∈d0.weights Tryz.prog 25∨x∈d1.weights Tryz.prog 25∨x∈d2.weights Tryz.prog 26)→x≤reachBytes:=by
  intro x hx
  have hz':=List.all_eq_true.1 hz x
  simp only [List.cons_append,DataW.weightsEach,List.mem_append] at hz'
  rcases hx with hx|hx|hx
  ·simpa using hz' (.inl hx)
  ·simpa using hz' (.inr (.inl hx))
  ·simpa using hz' (.inr (.inr (.inl hx)))
 obtain ⟨w0,r0,k0⟩:=aj3 aog (hval 0 25 v0 rfl rfl) h0
 obtain ⟨w1,r1,k1⟩:=aj3 aog (hval 1 25 v1 rfl rfl) h1
 obtain ⟨x2,r2,k2⟩:=apu aqW (hval 2 26 v2 rfl rfl) h2
 obtain ⟨e,he,hx,se,hn⟩:=aqM (k0 fun z hz=>hzz z (.inl hz))
 obtain ⟨o,ho,_,so,_⟩:=aqM (k1 fun z hz=>hzz z (.inr (.inl hz)))
 obtain ⟨al,hl,hal,hall⟩:=ao3 (k2 fun z hz=>hzz z (.inr (.inr hz)))
 obtain rfl:x2 = .sl 1 (al.map V.str):=by simpa using hal
 rw [he] at r0
 rw [ho] at r1
 refine amn Seat.mix aiH (ae4 W (wok hL hsh) e o al hx se hn so.hi hl hall) rfl fun i h h'=>?_
 match i,h with
 | 0,_=>exact r0
 | 1,_=>exact r1
 | 2,_=>exact r2
theorem aiG:Rows.EndpointRawSaid :=
 OpenClaim.holds_of_wide 3 Tryz.f3 rfl rfl rfl rfl rfl rfl rfl ⟨rfl,rfl,rfl,rfl,rfl⟩ rfl rfl rfl rfl rfl (by kernel_rfl) Tryz.func3 (by kernel_rfl)
  (of_decide_eq_true (by kernel_rfl)) (by unfold Func.isWrapper;first|(rw [if_pos (by decide +kernel)];kernel_rfl)|(rw [if_neg (by decide +kernel)];exact ⟨rfl,rfl⟩))
  (fun os started H enc _=>afR os started H enc)
theorem endpointRaw_card:Rows.EndpointRawCardSaid :=
 Claim7.holds_tied_plain_at .later [] [.data,.data,.data,.data,.sentinel,.sentinel,.pinned] true (true, "cecc5f665ea6ba4feb4209390df2d2ff11dcf4917772e706c5e981468760329d") true
  aiG (fun _ h=>by cases h) (by kernel_rfl) (fun _ h=>by cases h) endpointRaw_row_tie rfl ⟨rfl,rfl⟩ (by kernel_rfl) rfl
  (fun f fn hf hfn=>by
    obtain rfl:f = 3:=Option.some.inj ((show Tryz.prog.funcNamed "cipherplan/cipherplanlaw09.EndpointRaw" = some 3 by kernel_rfl).symm.trans hf) |>.symm
    obtain rfl:fn = Tryz.f3:=(Option.some.inj (Tryz.func3.symm.trans hfn)).symm
    exact ⟨by kernel_rfl,fun j t ht=>by
     rw [Tryz.params3] at ht
     have h3:t = 25∨t = 26:=by
      rcases j with _|_|_|j
      ·simp at ht;exact .inl ht.symm
      ·simp at ht;exact .inl ht.symm
      ·simp at ht;exact .inr ht.symm
      ·simp at ht
     rcases h3 with rfl|rfl
     ·exact (show Tryz.prog.wantsStandIn 25 = false by kernel_rfl)
     ·exact (show Tryz.prog.wantsStandIn 26 = false by kernel_rfl)
     ⟩)
  (by kernel_rfl)
#print axioms endpointRaw_card
end Go.Proofs.YtajbkpjbnooblaaGreatDoor
end
