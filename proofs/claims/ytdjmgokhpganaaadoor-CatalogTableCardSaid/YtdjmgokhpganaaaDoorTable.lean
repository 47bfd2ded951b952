/- The functions of the program that the law reaches: their contracts at this seat. -/
import Derived.Test.YtdjmgokhpganaaaDoorLib
import Derived.Test.YtdjmgokhpganaaaDoorTabW
import Derived.KernelRfl
import Derived.Test.YtdjmgokhpganaaaDoorRow
import Derived.Test.YtdjmgokhpganaaaDoorCards
import Derived.Test.YtdjmgokhpganaaaDoorTie
set_option linter.unusedVariables false
set_option linter.unusedSimpArgs false
section
namespace Go.Proofs.YtdjmgokhpganaaaDoor
open Go Av Go.RowKit
set_option maxRecDepth 100000
set_option linter.unusedVariables false
theorem has_catalog_use : Has Tryd.prog 82 8 c_catalog_use r_catalog_use := ⟨Tryd.f82, _, Tryd.func82, by decide, rfl, rfl, by kernel_rfl, by kernel_rfl⟩
theorem E_catalog_use (W : World) (hW : WOK W) : CE_catalog_use (envW Tryd.prog W) 82 := ev_catalog_use (Γ := envW Tryd.prog W) has_catalog_use 
theorem has_catalog_Suites : Has Tryd.prog 44 125 (c_catalog_Suites 82) r_catalog_Suites := ⟨Tryd.f44, _, Tryd.func44, by decide, rfl, rfl, by kernel_rfl, by kernel_rfl⟩
theorem E_catalog_Suites (W : World) (hW : WOK W) : CE_catalog_Suites (envW Tryd.prog W) 44 := ev_catalog_Suites (Γ := envW Tryd.prog W) has_catalog_Suites (E_catalog_use W hW)
theorem has_cipherplanref02_use : Has Tryd.prog 83 8 c_cipherplanref02_use r_cipherplanref02_use := ⟨Tryd.f83, _, Tryd.func83, by decide, rfl, rfl, by kernel_rfl, by kernel_rfl⟩
theorem E_cipherplanref02_use (W : World) (hW : WOK W) : CE_cipherplanref02_use (envW Tryd.prog W) 83 := ev_cipherplanref02_use (Γ := envW Tryd.prog W) has_cipherplanref02_use 
theorem has_cipherplanref02_suite : Has Tryd.prog 84 26 c_cipherplanref02_suite r_cipherplanref02_suite := ⟨Tryd.f84, _, Tryd.func84, by decide, rfl, rfl, by kernel_rfl, by kernel_rfl⟩
theorem E_cipherplanref02_suite (W : World) (hW : WOK W) : CE_cipherplanref02_suite (envW Tryd.prog W) 84 := ev_cipherplanref02_suite (Γ := envW Tryd.prog W) has_cipherplanref02_suite 
theorem has_cipherplanref02_Suites : Has Tryd.prog 45 110 (c_cipherplanref02_Suites 83 84) r_cipherplanref02_Suites := ⟨Tryd.f45, _, Tryd.func45, by decide, rfl, rfl, by kernel_rfl, by kernel_rfl⟩
theorem E_cipherplanref02_Suites (W : World) (hW : WOK W) : CE_cipherplanref02_Suites (envW Tryd.prog W) 45 := ev_cipherplanref02_Suites (Γ := envW Tryd.prog W) has_cipherplanref02_Suites (E_cipherplanref02_use W hW) (E_cipherplanref02_suite W hW)
theorem has_catalog_Suite : Has Tryd.prog 46 20 (c_catalog_Suite 44) r_catalog_Suite := ⟨Tryd.f46, _, Tryd.func46, by decide, rfl, rfl, by kernel_rfl, by kernel_rfl⟩
theorem E_catalog_Suite (W : World) (hW : WOK W) : CE_catalog_Suite (envW Tryd.prog W) 46 := ev_catalog_Suite (Γ := envW Tryd.prog W) has_catalog_Suite (E_catalog_Suites W hW)
theorem has_cipherplanref02_Suite : Has Tryd.prog 47 16 (c_cipherplanref02_Suite 45) r_cipherplanref02_Suite := ⟨Tryd.f47, _, Tryd.func47, by decide, rfl, rfl, by kernel_rfl, by kernel_rfl⟩
theorem E_cipherplanref02_Suite (W : World) (hW : WOK W) : CE_cipherplanref02_Suite (envW Tryd.prog W) 47 := ev_cipherplanref02_Suite (Γ := envW Tryd.prog W) has_cipherplanref02_Suite (E_cipherplanref02_Suites W hW)
theorem has_catalog_rows : Has Tryd.prog 89 46 c_catalog_rows r_catalog_rows := ⟨Tryd.f89, _, Tryd.func89, by decide, rfl, rfl, by kernel_rfl, by kernel_rfl⟩
theorem E_catalog_rows (W : World) (hW : WOK W) : CE_catalog_rows (envW Tryd.prog W) 89 := ev_catalog_rows (Γ := envW Tryd.prog W) has_catalog_rows 
theorem has_catalog_Find : Has Tryd.prog 54 20 (c_catalog_Find 89) r_catalog_Find := ⟨Tryd.f54, _, Tryd.func54, by decide, rfl, rfl, by kernel_rfl, by kernel_rfl⟩
theorem E_catalog_Find (W : World) (hW : WOK W) : CE_catalog_Find (envW Tryd.prog W) 54 := ev_catalog_Find (Γ := envW Tryd.prog W) has_catalog_Find (E_catalog_rows W hW)
theorem has_catalog_of : Has Tryd.prog 78 14 (c_catalog_of 89) r_catalog_of := ⟨Tryd.f78, _, Tryd.func78, by decide, rfl, rfl, by kernel_rfl, by kernel_rfl⟩
theorem E_catalog_of (W : World) (hW : WOK W) : CE_catalog_of (envW Tryd.prog W) 78 := ev_catalog_of (Γ := envW Tryd.prog W) has_catalog_of (E_catalog_rows W hW)
theorem has_catalog_modulus : Has Tryd.prog 79 21 c_catalog_modulus r_catalog_modulus := ⟨Tryd.f79, _, Tryd.func79, by decide, rfl, rfl, by kernel_rfl, by kernel_rfl⟩
theorem E_catalog_modulus (W : World) (hW : WOK W) : CE_catalog_modulus (envW Tryd.prog W) 79 := ev_catalog_modulus (Γ := envW Tryd.prog W) has_catalog_modulus 
theorem has_slices_Index___int_int : Has Tryd.prog 80 19 c_slices_Index___int_int r_slices_Index___int_int := ⟨Tryd.f80, _, Tryd.func80, by decide, rfl, rfl, by kernel_rfl, by kernel_rfl⟩
theorem E_slices_Index___int_int (W : World) (hW : WOK W) : CE_slices_Index___int_int (envW Tryd.prog W) 80 := ev_slices_Index___int_int (Γ := envW Tryd.prog W) has_slices_Index___int_int 
theorem has_slices_Contains___int_int : Has Tryd.prog 71 9 (c_slices_Contains___int_int 80) r_slices_Contains___int_int := ⟨Tryd.f71, _, Tryd.func71, by decide, rfl, rfl, by kernel_rfl, by kernel_rfl⟩
theorem E_slices_Contains___int_int (W : World) (hW : WOK W) : CE_slices_Contains___int_int (envW Tryd.prog W) 71 := ev_slices_Contains___int_int (Γ := envW Tryd.prog W) has_slices_Contains___int_int (E_slices_Index___int_int W hW)
theorem has_catalog_Strength : Has Tryd.prog 41 61 (c_catalog_Strength 78 79 71 80) r_catalog_Strength := ⟨Tryd.f41, _, Tryd.func41, by decide, rfl, rfl, by kernel_rfl, by kernel_rfl⟩
theorem E_catalog_Strength (W : World) (hW : WOK W) : CE_catalog_Strength (envW Tryd.prog W) 41 := ev_catalog_Strength (Γ := envW Tryd.prog W) has_catalog_Strength (E_catalog_of W hW) (E_catalog_modulus W hW) (E_slices_Contains___int_int W hW) (E_slices_Index___int_int W hW)
theorem has_catalog_Valid : Has Tryd.prog 42 6 (c_catalog_Valid 41) r_catalog_Valid := ⟨Tryd.f42, _, Tryd.func42, by decide, rfl, rfl, by kernel_rfl, by kernel_rfl⟩
theorem E_catalog_Valid (W : World) (hW : WOK W) : CE_catalog_Valid (envW Tryd.prog W) 42 := ev_catalog_Valid (Γ := envW Tryd.prog W) has_catalog_Valid (E_catalog_Strength W hW)
theorem has_catalog_Name : Has Tryd.prog 48 12 (c_catalog_Name 78) r_catalog_Name := ⟨Tryd.f48, _, Tryd.func48, by decide, rfl, rfl, by kernel_rfl, by kernel_rfl⟩
theorem E_catalog_Name (W : World) (hW : WOK W) : CE_catalog_Name (envW Tryd.prog W) 48 := ev_catalog_Name (Γ := envW Tryd.prog W) has_catalog_Name (E_catalog_of W hW)
theorem has_catalog_Text : Has Tryd.prog 43 22 (c_catalog_Text 42 48 81) r_catalog_Text := ⟨Tryd.f43, _, Tryd.func43, by decide, rfl, rfl, by kernel_rfl, by kernel_rfl⟩
theorem E_catalog_Text (W : World) (hW : WOK W) : CE_catalog_Text (envW Tryd.prog W) 43 := ev_catalog_Text (Γ := envW Tryd.prog W) has_catalog_Text (E_catalog_Valid W hW) (E_catalog_Name W hW) (E_strconv_Itoa W hW)
theorem has_catalog_Parse : Has Tryd.prog 39 36 (c_catalog_Parse 75 76 54 42 43) r_catalog_Parse := ⟨Tryd.f39, _, Tryd.func39, by decide, rfl, rfl, by kernel_rfl, by kernel_rfl⟩
theorem E_catalog_Parse (W : World) (hW : WOK W) : CE_catalog_Parse (envW Tryd.prog W) 39 := ev_catalog_Parse (Γ := envW Tryd.prog W) has_catalog_Parse (E_strings_Cut W hW) (E_strconv_Atoi W hW) (E_catalog_Find W hW) (E_catalog_Valid W hW) (E_catalog_Text W hW)
theorem has_cipherplanlaw02_awake : Has Tryd.prog 36 31 (c_cipherplanlaw02_awake 39 43 41 44) r_cipherplanlaw02_awake := ⟨Tryd.f36, _, Tryd.func36, by decide, rfl, rfl, by kernel_rfl, by kernel_rfl⟩
theorem E_cipherplanlaw02_awake (W : World) (hW : WOK W) : CE_cipherplanlaw02_awake (envW Tryd.prog W) 36 := ev_cipherplanlaw02_awake (Γ := envW Tryd.prog W) has_cipherplanlaw02_awake (E_catalog_Parse W hW) (E_catalog_Text W hW) (E_catalog_Strength W hW) (E_catalog_Suites W hW)
theorem has_cipherplanlaw02_CatalogTable : Has Tryd.prog 11 53 (c_cipherplanlaw02_CatalogTable 44 45 46 47 36) r_cipherplanlaw02_CatalogTable := ⟨Tryd.f11, _, Tryd.func11, by decide, rfl, rfl, by kernel_rfl, by kernel_rfl⟩
theorem E_cipherplanlaw02_CatalogTable (W : World) (hW : WOK W) : CE_cipherplanlaw02_CatalogTable (envW Tryd.prog W) 11 := ev_cipherplanlaw02_CatalogTable (Γ := envW Tryd.prog W) has_cipherplanlaw02_CatalogTable (E_catalog_Suites W hW) (E_cipherplanref02_Suites W hW) (E_catalog_Suite W hW) (E_cipherplanref02_Suite W hW) (E_cipherplanlaw02_awake W hW)
end Go.Proofs.YtdjmgokhpganaaaDoor
end

section
namespace Go.Proofs.YtdjmgokhpganaaaDoor
open Go Av Go.RowKit Go.ChangeShapes Go.WideShapes Go.ChangeAt
set_option maxRecDepth 100000

theorem catalogTable_own : Own Tryd.prog 11 := ⟨Tryd.f11, Tryd.func11, by decide, _, rfl⟩

theorem catalogTable_lifted (os : Os) (started : os.Started) (H : Type) (enc : TypeId × Value → H) :
    ReturnsInHanded {} Tryd.checked os 11 .any (fun w args => (Rows.catalogTableSpec.pre enc Tryd.prog Tryd.f11 [] false w args ∧ laidMet Tryd.prog catLaid w) ∧ sizedMet enc Tryd.prog Tryd.f11 (OpenSpec.ofChange Rows.catalogTableSpec) false w args)
      (Rows.catalogTableSpec.post enc Tryd.prog Tryd.f11 false true false false) := by
  refine law_lifted (C := Tryd.checked) (X := fun w => laidMet Tryd.prog catLaid w) (fun _ _ hh h => h.of_heap hh) Seat.own started (by kernel_rfl) Tryd.func11 H enc
    (ChangeSpec.witness_at (enc := enc) (C := Tryd.checked) (os := os) (X := fun w _ => laidMet Tryd.prog catLaid w) false (laidWorld os) #[.int .i64 0] 8 rfl (by kernel_rfl) (by kernel_rfl) (by kernel_rfl) (by kernel_rfl) (by kernel_rfl) (laidWorld_met os _))
    Seat.kids (fun h => Seat.full _ _ h) (Seat.small Tryd.f11.params.toList (by kernel_rfl)) rfl
    (fun ds h => by match ds, h with | [_], _ => rfl) rfl Tryd.underlying4 ?_
  intro W args ds p hval hA hL hsh
  have hA : DataW.TrodAll enc Tryd.prog W 0 (fun _ => true) true Tryd.f11.params.toList args.toList ds p := hA
  have hval : ∀ (j : Nat) t v, Tryd.f11.params[j]? = some t → args[j]? = some v → Value.okWide Tryd.prog W .any 0 t v := hval
  rw [Tryd.params11] at hA hval
  obtain ⟨v0, vs0, d0, ds0, p0, q0, hargs0, rfl, rfl, h0, g0⟩ := trodAll_cons hA
  obtain ⟨he, rfl, rfl⟩ := trodAll_nil g0
  obtain rfl : args = #[v0] := by cases args; simp_all
  obtain ⟨a0, w0, r0⟩ := arg_int Tryd.underlying3 (hval 0 3 v0 rfl rfl) h0
  refine calls_of_ev Seat.mix catalogTable_own (E_cipherplanlaw02_CatalogTable W (wok hL hsh) a0 ) rfl fun i h h' => ?_
  match i, h with
  | 0, _ => exact r0

theorem catalogTable_row : Rows.CatalogTableSaid :=
  OpenClaim.holds_of_wide 11 Tryd.f11 rfl rfl rfl rfl rfl rfl rfl ⟨rfl, rfl, rfl, rfl, rfl⟩ rfl rfl rfl rfl rfl (by kernel_rfl) Tryd.func11 (by kernel_rfl)
    (of_decide_eq_true (by kernel_rfl)) (by unfold Func.isWrapper; first | (rw [if_pos (by decide +kernel)]; kernel_rfl) | (rw [if_neg (by decide +kernel)]; exact ⟨rfl, rfl⟩))
    (fun os started H enc _ => catalogTable_lifted os started H enc)

theorem catalogTable_card : Rows.CatalogTableCardSaid :=
  Claim7.holds_tied_plain_at .later [] [.data, .data, .data, .sentinel, .sentinel] true (true, "89777e4cd8e7b23e94fe87244865969eb1081972b1796485f89b3715c7b38b7d") true
    catalogTable_row (fun _ h => by cases h) (by kernel_rfl) (fun _ h => by cases h) catalogTable_row_tie rfl ⟨rfl, rfl⟩ (by kernel_rfl) rfl
    (fun f fn hf hfn => by
      obtain rfl : f = 11 := Option.some.inj ((show Tryd.prog.funcNamed "cipherplan/cipherplanlaw02.CatalogTable" = some 11 by kernel_rfl).symm.trans hf) |>.symm
      obtain rfl : fn = Tryd.f11 := (Option.some.inj (Tryd.func11.symm.trans hfn)).symm
      exact ⟨by kernel_rfl, fun j t ht => by
        rw [Tryd.params11] at ht
        have h3 : t = 3 := by
          rcases j with _ | j
          · simp at ht; exact ht.symm
          · simp at ht
        subst h3
        · exact (show Tryd.prog.wantsStandIn 3 = false by kernel_rfl)
        ⟩)
    (by kernel_rfl)
#print axioms catalogTable_card
end Go.Proofs.YtdjmgokhpganaaaDoor
end
