/- EndpointBlocks, where what it reads is of bulk at most 1048576: the law returns true; each argument reads afterwards as it read before. Conditions: package-level variables as the program's text lays them (the card ties them). -/
import Derived.Test.YtphclkkggijicaaGreatDoorB39
import Derived.Test.YtphclkkggijicaaGreatDoorB40
import Derived.Test.YtphclkkggijicaaGreatDoorCards
import Derived.Test.YtphclkkggijicaaGreatDoorTie
set_option linter.unusedVariables false
set_option linter.unusedSimpArgs false
section
namespace Go.Proofs.YtphclkkggijicaaGreatDoor
open Go Av Go.RowKit Go.ChangeShapes Go.WideShapes Go.ChangeAt
set_option maxRecDepth 100000
theorem aar:Av.Own Tryz.prog 4:=⟨Tryz.f4,Tryz.func4,by decide,_,rfl⟩
theorem blk (H:Type):Blk (H:=H) Rows.uptoBulk Rows.uptoBulkAll:=by
 refine ⟨fun s=>?_,fun e s=>?_,fun p=>?_,fun d=>?_,fun d l=>?_⟩
 ·rw [Rows.uptoBulk];omega
 ·rw [Rows.uptoBulk];omega
 ·rw [Rows.uptoBulk];omega
 ·cases d with
  | lit l=>cases l<;>rw [Rows.uptoBulk]<;>first|omega|(intro _ h;cases h)
  | _=>rw [Rows.uptoBulk];omega
 ·rw [Rows.uptoBulkAll]
theorem asm:aqL Tryz.prog 56 53 34 9 4 3:=⟨Tryz.underlying53,by kernel_rfl,⟨_,_,_,_,Tryz.underlying56,⟨rfl,rfl⟩,⟨rfl,rfl⟩,⟨rfl,rfl⟩,⟨rfl,rfl⟩⟩,⟨by kernel_rfl,by kernel_rfl,by kernel_rfl,by kernel_rfl⟩,by kernel_rfl,by kernel_rfl,by kernel_rfl⟩
theorem ar4 (os:Os) {H:Type} (enc:TypeId×Value→H):∃ places,DataW.whole enc Tryz.prog ((acU os).forCall (fun _ _=>0) ⟨#[],#[.slice none 0 0,.slice none 0 0,.string ⟨#[]⟩],[]⟩).memory Tryz.f4.params.toList Rows.endpointBlocksSpec.vars false #[Value.slice none 0 0,.slice none 0 0,.string ⟨#[]⟩].toList 8 = some ([.nil,.nil,.lit (.string [])],[],places) :=
 ⟨[],by kernel_rfl⟩
theorem xG (os:Os) (started:os.Started) (H:Type) (enc:TypeId×Value→H) (F:Stop.Interp) :
  ReturnsInHanded {} Tryz.checked os 4 .any ((Rows.OpenSpec.upto Rows.endpointBlocksSpec).preRow enc Tryz.prog Tryz.f4 Rows.endpointBlocksUptoRow.domain false Rows.endpointBlocksUptoRow.laid) (((Rows.OpenSpec.upto Rows.endpointBlocksSpec).at F).post enc Tryz.prog Tryz.f4 false true false false):=by
 obtain ⟨places,hx⟩:=ar4 os enc
 refine ag5 (C:=Tryz.checked) (laid:=af1) Seat.own started (by kernel_rfl) Tryz.func4 H enc F
  (witness_row_at (enc:=enc) (C:=Tryz.checked) false (acU os) #[.slice none 0 0,.slice none 0 0,.string ⟨#[]⟩] rfl (by kernel_rfl) (by kernel_rfl) (by kernel_rfl)
    (OpenSpec.preRow_of_cond 8 hx (by kernel_rfl) (fun k hk=>by cases hk;kernel_rfl) (by kernel_rfl) (afq os _)))
  Seat.kids (fun h=>Seat.full _ _ h) (Seat.small Tryz.f4.params.toList (by kernel_rfl)) rfl
  (fun ds h=>by match ds,h with|[_,_,_],_=>rfl) rfl Tryz.underlying4 ?_
 intro W args ds gs p hval hA hL hsh hk
 have hA:DataW.TrodAll enc Tryz.prog W 0 (fun _=>true) true Tryz.f4.params.toList args.toList ds p:=hA
 have hval:∀ (j:Nat) t v,Tryz.f4.params[j]? = some t→args[j]? = some v→Value.okWide Tryz.prog W .any 0 t v:=hval
 have hk:=zZ hk
 rw [Tryz.params4] at hA hval
 obtain ⟨v0,vs0,d0,ds0,p0,q0,hargs0,rfl,rfl,h0,g0⟩:=trodAll_cons hA
 obtain ⟨v1,vs1,d1,ds1,p1,q1,hargs1,rfl,rfl,h1,g1⟩:=trodAll_cons g0
 obtain ⟨v2,vs2,d2,ds2,p2,q2,hargs2,rfl,rfl,h2,g2⟩:=trodAll_cons g1
 obtain ⟨he,rfl,rfl⟩:=trodAll_nil g2
 obtain rfl:args = #[v0,v1,v2]:=by cases args;simp_all
 obtain ⟨a0,w0,x0,r0⟩:=aoN Tryz.underlying22 Tryz.underlying3 (by kernel_rfl) (hval 0 22 v0 rfl rfl) h0
 have hd:Rows.uptoBulk d1≤1048576:=by
  have:=(blk H).cons d0 (d1 :: [d2]++gs)
  have h2:=(blk H).cons d1 ([d2]++gs)
  simp only [List.cons_append,List.nil_append] at hk this h2
  omega
 obtain ⟨a1,r1,s1,s2⟩:=aoP (blk H) asm (hval 1 53 v1 rfl rfl) h1 hd
 obtain ⟨a2,w2,r2⟩:=alh Tryz.underlying9 (hval 2 9 v2 rfl rfl) h2
 refine ai6 Seat.mix aar (@xi W ⟨wok hL hsh⟩ a0 a1 a2 s1 s2) rfl fun i h h'=>?_
 match i,h with
 | 0,_=>exact r0
 | 1,_=>exact r1
 | 2,_=>exact r2
theorem jf1:(Rows.endpointBlocksUptoRow.inPlace == Tryz.prog.inPlace 4) = true:=by kernel_rfl
theorem jf2:(Rows.endpointBlocksUptoRow.unfollowed == Tryz.prog.unfollowed 4) = true:=by kernel_rfl
theorem jf3:(Rows.endpointBlocksUptoRow.recurses == Tryz.prog.recurses 4) = true:=by kernel_rfl
theorem jf4:(Rows.endpointBlocksUptoRow.named == Tryz.prog.varsNamed 4) = true:=by kernel_rfl
theorem jf5:laidOutB Tryz.prog = true:=by kernel_rfl
theorem jf6:mapsRowed Tryz.prog = true:=by kernel_rfl
theorem jf:joinedFacts Tryz.prog 4 Tryz.f4 (Rows.OpenSpec.upto Rows.endpointBlocksSpec).bare Rows.endpointBlocksUptoRow = true:=by
 rw [joinedFacts,jf1,jf2,jf3,jf4,jf5,jf6]
 kernel_rfl
theorem vo:Rows.EndpointBlocksUptoSaid :=
 OpenClaim.holds_of_cond 4 Tryz.f4 rfl rfl rfl rfl rfl rfl rfl ⟨rfl,rfl,rfl,rfl,rfl⟩ rfl rfl rfl rfl rfl (by kernel_rfl) Tryz.func4 jf
  (zZ (by kernel_rfl)) (by unfold Func.isWrapper;first|(rw [if_pos (by decide +kernel)];kernel_rfl)|(rw [if_neg (by decide +kernel)];exact ⟨rfl,rfl⟩))
  (fun os started H enc _ F=>by rw [OpenClaim.pre_eq_preRow];exact xG os started H enc F)
theorem amE {P:Program} (h:P.funcs.any Func.goes = false) (f:FuncId):P.goes f = false:=by
 have hm:∀ g:Nat,(P.funcs[g]?).any Func.goes = false:=fun g=>by
  cases hx:P.funcs[g]? with
  | none=>rfl
  | some fn =>
    obtain ⟨h1,h2⟩:=zU.1 hx
    have h3:=Array.any_eq_false.1 h g h1
    rw [h2] at h3
    simpa using h3
 unfold Program.goes
 rw [h,zI,Zr]
 simp only [hm]
 simp
theorem asa {P:Program} {c:OpenClaim} (h:P.funcs.any Func.goes = false) (hs:c.start = .entering):false = c.goesBy P:=by
 have hf:P.goesFrom c.func = false:=by
  unfold Program.goesFrom
  cases P.funcNamed c.func with
  | none=>rfl
  | some f=>exact amE h f
 unfold OpenClaim.goesBy Program.goesAt
 rw [hf,hs];rfl
theorem jg:Tryz.prog.funcs.any Func.goes = false:=by kernel_rfl
theorem jl:true = Tryz.prog.looks []:=by kernel_rfl
theorem endpointBlocks_card:Rows.EndpointBlocksUptoCardSaid :=
 Claim7.holds_tied_plain_at .later [] [.data,.data,.data,.data,.sentinel,.sentinel,.pinned] true (true, "8637a9dba78b3d7e8e00d2e393a0fe64c05a2819328cabc8039f142139f354e9") true
  vo (fun _ h=>by cases h) (by kernel_rfl) (fun _ h=>by cases h) endpointBlocksUpto_row_tie rfl ⟨rfl,rfl⟩ (by kernel_rfl) rfl
  (fun f fn hf hfn=>by
    obtain rfl:f = 4:=kU ((show Tryz.prog.funcNamed "cipherplan/cipherplanlaw09.EndpointBlocks" = some 4 by kernel_rfl).symm.trans hf) |>.symm
    obtain rfl:fn = Tryz.f4:=(kU (Tryz.func4.symm.trans hfn)).symm
    exact ⟨jl,fun j t ht=>by
     rw [Tryz.params4] at ht
     have h3:t = 22∨t = 53∨t = 9:=by
      rcases j with _|_|_|j
      ·simp at ht;exact .inl ht.symm
      ·simp at ht;exact .inr (.inl ht.symm)
      ·simp at ht;exact .inr (.inr ht.symm)
      ·simp at ht
     rcases h3 with rfl|rfl|rfl
     ·exact (show Tryz.prog.wantsStandIn 22 = false by kernel_rfl)
     ·exact (show Tryz.prog.wantsStandIn 53 = false by kernel_rfl)
     ·exact (show Tryz.prog.wantsStandIn 9 = false by kernel_rfl)
     ⟩)
  (asa jg rfl)
#print axioms endpointBlocks_card
end Go.Proofs.YtphclkkggijicaaGreatDoor
end
