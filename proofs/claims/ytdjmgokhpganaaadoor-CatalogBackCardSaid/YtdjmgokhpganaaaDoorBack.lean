/- The functions of the program that the law reaches: their contracts at this seat. -/
import Derived.Test.YtdjmgokhpganaaaDoorLib
import Derived.Test.YtdjmgokhpganaaaDoorBackW
import Derived.KernelRfl
import Derived.Test.YtdjmgokhpganaaaDoorRow
import Derived.Test.YtdjmgokhpganaaaDoorCards
import Derived.Test.YtdjmgokhpganaaaDoorTie
set_option linter.unusedVariables false
set_option linter.unusedSimpArgs false
section
namespace Go.Proofs.YtdjmgokhpganaaaDoor
open Go Av Go.RowKit
set_option maxRecDepth 100000
set_option linter.unusedVariables false
theorem has_cipherplanmake_Light : Has Tryd.prog 14 6 c_cipherplanmake_Light r_cipherplanmake_Light := ⟨Tryd.f14, _, Tryd.func14, by decide, rfl, rfl, by kernel_rfl, by kernel_rfl⟩
theorem E_cipherplanmake_Light (W : World) (hW : WOK W) : CE_cipherplanmake_Light (envW Tryd.prog W) 14 := ev_cipherplanmake_Light (Γ := envW Tryd.prog W) has_cipherplanmake_Light 
theorem has_catalog_rows : Has Tryd.prog 89 46 c_catalog_rows r_catalog_rows := ⟨Tryd.f89, _, Tryd.func89, by decide, rfl, rfl, by kernel_rfl, by kernel_rfl⟩
theorem E_catalog_rows (W : World) (hW : WOK W) : CE_catalog_rows (envW Tryd.prog W) 89 := ev_catalog_rows (Γ := envW Tryd.prog W) has_catalog_rows 
theorem has_catalog_Find : Has Tryd.prog 54 20 (c_catalog_Find 89) r_catalog_Find := ⟨Tryd.f54, _, Tryd.func54, by decide, rfl, rfl, by kernel_rfl, by kernel_rfl⟩
theorem E_catalog_Find (W : World) (hW : WOK W) : CE_catalog_Find (envW Tryd.prog W) 54 := ev_catalog_Find (Γ := envW Tryd.prog W) has_catalog_Find (E_catalog_rows W hW)
theorem has_catalog_of : Has Tryd.prog 78 14 (c_catalog_of 89) r_catalog_of := ⟨Tryd.f78, _, Tryd.func78, by decide, rfl, rfl, by kernel_rfl, by kernel_rfl⟩
theorem E_catalog_of (W : World) (hW : WOK W) : CE_catalog_of (envW Tryd.prog W) 78 := ev_catalog_of (Γ := envW Tryd.prog W) has_catalog_of (E_catalog_rows W hW)
theorem has_catalog_modulus : Has Tryd.prog 79 21 c_catalog_modulus r_catalog_modulus := ⟨Tryd.f79, _, Tryd.func79, by decide, rfl, rfl, by kernel_rfl, by kernel_rfl⟩
theorem E_catalog_modulus (W : World) (hW : WOK W) : CE_catalog_modulus (envW Tryd.prog W) 79 := ev_catalog_modulus (Γ := envW Tryd.prog W) has_catalog_modulus 
theorem has_slices_Index___int_int : Has Tryd.prog 80 19 c_slices_Index___int_int r_slices_Index___int_int := ⟨Tryd.f80, _, Tryd.func80, by decide, rfl, rfl, by kernel_rfl, by kernel_rfl⟩
theorem E_slices_Index___int_int (W : World) (hW : WOK W) : CE_slices_Index___int_int (envW Tryd.prog W) 80 := ev_slices_Index___int_int (Γ := envW Tryd.prog W) has_slices_Index___int_int 
theorem has_slices_Contains___int_int : Has Tryd.prog 71 9 (c_slices_Contains___int_int 80) r_slices_Contains___int_int := ⟨Tryd.f71, _, Tryd.func71, by decide, rfl, rfl, by kernel_rfl, by kernel_rfl⟩
theorem E_slices_Contains___int_int (W : World) (hW : WOK W) : CE_slices_Contains___int_int (envW Tryd.prog W) 71 := ev_slices_Contains___int_int (Γ := envW Tryd.prog W) has_slices_Contains___int_int (E_slices_Index___int_int W hW)
theorem has_catalog_Strength : Has Tryd.prog 41 61 (c_catalog_Strength 78 79 71 80) r_catalog_Strength := ⟨Tryd.f41, _, Tryd.func41, by decide, rfl, rfl, by kernel_rfl, by kernel_rfl⟩
theorem E_catalog_Strength (W : World) (hW : WOK W) : CE_catalog_Strength (envW Tryd.prog W) 41 := ev_catalog_Strength (Γ := envW Tryd.prog W) has_catalog_Strength (E_catalog_of W hW) (E_catalog_modulus W hW) (E_slices_Contains___int_int W hW) (E_slices_Index___int_int W hW)
theorem has_catalog_Valid : Has Tryd.prog 42 6 (c_catalog_Valid 41) r_catalog_Valid := ⟨Tryd.f42, _, Tryd.func42, by decide, rfl, rfl, by kernel_rfl, by kernel_rfl⟩
theorem E_catalog_Valid (W : World) (hW : WOK W) : CE_catalog_Valid (envW Tryd.prog W) 42 := ev_catalog_Valid (Γ := envW Tryd.prog W) has_catalog_Valid (E_catalog_Strength W hW)
theorem has_catalog_Name : Has Tryd.prog 48 12 (c_catalog_Name 78) r_catalog_Name := ⟨Tryd.f48, _, Tryd.func48, by decide, rfl, rfl, by kernel_rfl, by kernel_rfl⟩
theorem E_catalog_Name (W : World) (hW : WOK W) : CE_catalog_Name (envW Tryd.prog W) 48 := ev_catalog_Name (Γ := envW Tryd.prog W) has_catalog_Name (E_catalog_of W hW)
theorem has_catalog_Text : Has Tryd.prog 43 22 (c_catalog_Text 42 48 81) r_catalog_Text := ⟨Tryd.f43, _, Tryd.func43, by decide, rfl, rfl, by kernel_rfl, by kernel_rfl⟩
theorem E_catalog_Text (W : World) (hW : WOK W) : CE_catalog_Text (envW Tryd.prog W) 43 := ev_catalog_Text (Γ := envW Tryd.prog W) has_catalog_Text (E_catalog_Valid W hW) (E_catalog_Name W hW) (E_strconv_Itoa W hW)
theorem has_catalog_Parse : Has Tryd.prog 39 36 (c_catalog_Parse 75 76 54 42 43) r_catalog_Parse := ⟨Tryd.f39, _, Tryd.func39, by decide, rfl, rfl, by kernel_rfl, by kernel_rfl⟩
theorem E_catalog_Parse (W : World) (hW : WOK W) : CE_catalog_Parse (envW Tryd.prog W) 39 := ev_catalog_Parse (Γ := envW Tryd.prog W) has_catalog_Parse (E_strings_Cut W hW) (E_strconv_Atoi W hW) (E_catalog_Find W hW) (E_catalog_Valid W hW) (E_catalog_Text W hW)
theorem has_catalog_use : Has Tryd.prog 82 8 c_catalog_use r_catalog_use := ⟨Tryd.f82, _, Tryd.func82, by decide, rfl, rfl, by kernel_rfl, by kernel_rfl⟩
theorem E_catalog_use (W : World) (hW : WOK W) : CE_catalog_use (envW Tryd.prog W) 82 := ev_catalog_use (Γ := envW Tryd.prog W) has_catalog_use 
theorem has_catalog_Suites : Has Tryd.prog 44 125 (c_catalog_Suites 82) r_catalog_Suites := ⟨Tryd.f44, _, Tryd.func44, by decide, rfl, rfl, by kernel_rfl, by kernel_rfl⟩
theorem E_catalog_Suites (W : World) (hW : WOK W) : CE_catalog_Suites (envW Tryd.prog W) 44 := ev_catalog_Suites (Γ := envW Tryd.prog W) has_catalog_Suites (E_catalog_use W hW)
theorem has_cipherplanlaw02_awake : Has Tryd.prog 36 31 (c_cipherplanlaw02_awake 39 43 41 44) r_cipherplanlaw02_awake := ⟨Tryd.f36, _, Tryd.func36, by decide, rfl, rfl, by kernel_rfl, by kernel_rfl⟩
theorem E_cipherplanlaw02_awake (W : World) (hW : WOK W) : CE_cipherplanlaw02_awake (envW Tryd.prog W) 36 := ev_cipherplanlaw02_awake (Γ := envW Tryd.prog W) has_cipherplanlaw02_awake (E_catalog_Parse W hW) (E_catalog_Text W hW) (E_catalog_Strength W hW) (E_catalog_Suites W hW)
theorem has_cipherplanmake_Roll : Has Tryd.prog 16 6 c_cipherplanmake_Roll r_cipherplanmake_Roll := ⟨Tryd.f16, _, Tryd.func16, by decide, rfl, rfl, by kernel_rfl, by kernel_rfl⟩
theorem E_cipherplanmake_Roll (W : World) (hW : WOK W) : CE_cipherplanmake_Roll (envW Tryd.prog W) 16 := ev_cipherplanmake_Roll (Γ := envW Tryd.prog W) has_cipherplanmake_Roll 
theorem has_cipherplanmake_Mod : Has Tryd.prog 18 14 c_cipherplanmake_Mod r_cipherplanmake_Mod := ⟨Tryd.f18, _, Tryd.func18, by decide, rfl, rfl, by kernel_rfl, by kernel_rfl⟩
theorem E_cipherplanmake_Mod (W : World) (hW : WOK W) : CE_cipherplanmake_Mod (envW Tryd.prog W) 18 := ev_cipherplanmake_Mod (Γ := envW Tryd.prog W) has_cipherplanmake_Mod 
theorem has_cipherplanmake_Dice__Next : Has Tryd.prog 19 35 (c_cipherplanmake_Dice__Next 18) r_cipherplanmake_Dice__Next := ⟨Tryd.f19, _, Tryd.func19, by decide, rfl, rfl, by kernel_rfl, by kernel_rfl⟩
theorem E_cipherplanmake_Dice__Next (W : World) (hW : WOK W) : CE_cipherplanmake_Dice__Next (envW Tryd.prog W) 19 := ev_cipherplanmake_Dice__Next (Γ := envW Tryd.prog W) has_cipherplanmake_Dice__Next (E_cipherplanmake_Mod W hW)
theorem has_cipherplanmake_Dice__Of : Has Tryd.prog 20 12 (c_cipherplanmake_Dice__Of 19) r_cipherplanmake_Dice__Of := ⟨Tryd.f20, _, Tryd.func20, by decide, rfl, rfl, by kernel_rfl, by kernel_rfl⟩
theorem E_cipherplanmake_Dice__Of (W : World) (hW : WOK W) : CE_cipherplanmake_Dice__Of (envW Tryd.prog W) 20 := ev_cipherplanmake_Dice__Of (Γ := envW Tryd.prog W) has_cipherplanmake_Dice__Of (E_cipherplanmake_Dice__Next W hW)
theorem has_cipherplanmake_size : Has Tryd.prog 74 46 (c_cipherplanmake_size 20) r_cipherplanmake_size := ⟨Tryd.f74, _, Tryd.func74, by decide, rfl, rfl, by kernel_rfl, by kernel_rfl⟩
theorem E_cipherplanmake_size (W : World) (hW : WOK W) : CE_cipherplanmake_size (envW Tryd.prog W) 74 := ev_cipherplanmake_size (Γ := envW Tryd.prog W) has_cipherplanmake_size (E_cipherplanmake_Dice__Of W hW)
theorem has_cipherplanmake_Use : Has Tryd.prog 38 12 (c_cipherplanmake_Use 19 74) r_cipherplanmake_Use := ⟨Tryd.f38, _, Tryd.func38, by decide, rfl, rfl, by kernel_rfl, by kernel_rfl⟩
theorem E_cipherplanmake_Use (W : World) (hW : WOK W) : CE_cipherplanmake_Use (envW Tryd.prog W) 38 := ev_cipherplanmake_Use (Γ := envW Tryd.prog W) has_cipherplanmake_Use (E_cipherplanmake_Dice__Next W hW) (E_cipherplanmake_size W hW)
theorem has_catalog_Kind : Has Tryd.prog 50 12 (c_catalog_Kind 78) r_catalog_Kind := ⟨Tryd.f50, _, Tryd.func50, by decide, rfl, rfl, by kernel_rfl, by kernel_rfl⟩
theorem E_catalog_Kind (W : World) (hW : WOK W) : CE_catalog_Kind (envW Tryd.prog W) 50 := ev_catalog_Kind (Γ := envW Tryd.prog W) has_catalog_Kind (E_catalog_of W hW)
theorem has_catalog_Suite : Has Tryd.prog 46 20 (c_catalog_Suite 44) r_catalog_Suite := ⟨Tryd.f46, _, Tryd.func46, by decide, rfl, rfl, by kernel_rfl, by kernel_rfl⟩
theorem E_catalog_Suite (W : World) (hW : WOK W) : CE_catalog_Suite (envW Tryd.prog W) 46 := ev_catalog_Suite (Γ := envW Tryd.prog W) has_catalog_Suite (E_catalog_Suites W hW)
theorem has_catalog_Code_1 : Has Tryd.prog 91 8 c_catalog_Code_1 r_catalog_Code_1 := ⟨Tryd.f91, _, Tryd.func91, by decide, rfl, rfl, by kernel_rfl, by kernel_rfl⟩
theorem E_catalog_Code_1 (W : World) (hW : WOK W) : CE_catalog_Code_1 (envW Tryd.prog W) 91 := ev_catalog_Code_1 (Γ := envW Tryd.prog W) has_catalog_Code_1 
theorem has_slices_IndexFunc___api_Suite_api_Suite : Has Tryd.prog 90 19 c_slices_IndexFunc___api_Suite_api_Suite r_slices_IndexFunc___api_Suite_api_Suite := ⟨Tryd.f90, _, Tryd.func90, by decide, rfl, rfl, by kernel_rfl, by kernel_rfl⟩
theorem E_slices_IndexFunc___api_Suite_api_Suite (W : World) (hW : WOK W) : CE_slices_IndexFunc___api_Suite_api_Suite (envW Tryd.prog W) 90 := ev_slices_IndexFunc___api_Suite_api_Suite (Γ := envW Tryd.prog W) has_slices_IndexFunc___api_Suite_api_Suite 
theorem has_catalog_Code : Has Tryd.prog 56 7 (c_catalog_Code 44 91 90) r_catalog_Code := ⟨Tryd.f56, _, Tryd.func56, by decide, rfl, rfl, by kernel_rfl, by kernel_rfl⟩
theorem E_catalog_Code (W : World) (hW : WOK W) : CE_catalog_Code (envW Tryd.prog W) 56 := ev_catalog_Code (Γ := envW Tryd.prog W) has_catalog_Code (E_catalog_Suites W hW) (E_catalog_Code_1 W hW) (E_slices_IndexFunc___api_Suite_api_Suite W hW)
theorem has_cipherplanlaw02_CatalogBack : Has Tryd.prog 13 134 (c_cipherplanlaw02_CatalogBack 14 36 16 38 43 39 41 42 48 54 50 44 46 56) r_cipherplanlaw02_CatalogBack := ⟨Tryd.f13, _, Tryd.func13, by decide, rfl, rfl, by kernel_rfl, by kernel_rfl⟩
theorem E_cipherplanlaw02_CatalogBack (W : World) (hW : WOK W) : CE_cipherplanlaw02_CatalogBack (envW Tryd.prog W) 13 := ev_cipherplanlaw02_CatalogBack (Γ := envW Tryd.prog W) has_cipherplanlaw02_CatalogBack (E_cipherplanmake_Light W hW) (E_cipherplanlaw02_awake W hW) (E_cipherplanmake_Roll W hW) (E_cipherplanmake_Use W hW) (E_catalog_Text W hW) (E_catalog_Parse W hW) (E_catalog_Strength W hW) (E_catalog_Valid W hW) (E_catalog_Name W hW) (E_catalog_Find W hW) (E_catalog_Kind W hW) (E_catalog_Suites W hW) (E_catalog_Suite W hW) (E_catalog_Code W hW)
end Go.Proofs.YtdjmgokhpganaaaDoor
end

section
namespace Go.Proofs.YtdjmgokhpganaaaDoor
open Go Av Go.RowKit Go.ChangeShapes Go.WideShapes Go.ChangeAt
set_option maxRecDepth 100000

theorem catalogBack_own : Own Tryd.prog 13 := ⟨Tryd.f13, Tryd.func13, by decide, _, rfl⟩

theorem catalogBack_lifted (os : Os) (started : os.Started) (H : Type) (enc : TypeId × Value → H) :
    ReturnsInHanded {} Tryd.checked os 13 .any (fun w args => (Rows.catalogBackSpec.pre enc Tryd.prog Tryd.f13 [] false w args ∧ laidMet Tryd.prog catLaid w) ∧ sizedMet enc Tryd.prog Tryd.f13 (OpenSpec.ofChange Rows.catalogBackSpec) false w args)
      (Rows.catalogBackSpec.post enc Tryd.prog Tryd.f13 false true false false) := by
  refine law_lifted (C := Tryd.checked) (X := fun w => laidMet Tryd.prog catLaid w) (fun _ _ hh h => h.of_heap hh) Seat.own started (by kernel_rfl) Tryd.func13 H enc
    (ChangeSpec.witness_at (enc := enc) (C := Tryd.checked) (os := os) (X := fun w _ => laidMet Tryd.prog catLaid w) false (laidWorld os) #[.slice none 0 0] 8 rfl (by kernel_rfl) (by kernel_rfl) (by kernel_rfl) (by kernel_rfl) (by kernel_rfl) (laidWorld_met os _))
    Seat.kids (fun h => Seat.full _ _ h) (Seat.small Tryd.f13.params.toList (by kernel_rfl)) rfl
    (fun ds h => by match ds, h with | [_], _ => rfl) rfl Tryd.underlying4 ?_
  intro W args ds p hval hA hL hsh
  have hA : DataW.TrodAll enc Tryd.prog W 0 (fun _ => true) true Tryd.f13.params.toList args.toList ds p := hA
  have hval : ∀ (j : Nat) t v, Tryd.f13.params[j]? = some t → args[j]? = some v → Value.okWide Tryd.prog W .any 0 t v := hval
  rw [Tryd.params13] at hA hval
  obtain ⟨v0, vs0, d0, ds0, p0, q0, hargs0, rfl, rfl, h0, g0⟩ := trodAll_cons hA
  obtain ⟨he, rfl, rfl⟩ := trodAll_nil g0
  obtain rfl : args = #[v0] := by cases args; simp_all
  obtain ⟨a0, w0, x0, r0⟩ := arg_ints Tryd.underlying22 Tryd.underlying3 (by kernel_rfl) (hval 0 22 v0 rfl rfl) h0
  unfold Go.maxLen at w0
  refine calls_of_ev Seat.mix catalogBack_own (E_cipherplanlaw02_CatalogBack W (wok hL hsh) a0 ) rfl fun i h h' => ?_
  match i, h with
  | 0, _ => exact r0

theorem catalogBack_row : Rows.CatalogBackSaid :=
  OpenClaim.holds_of_wide 13 Tryd.f13 rfl rfl rfl rfl rfl rfl rfl ⟨rfl, rfl, rfl, rfl, rfl⟩ rfl rfl rfl rfl rfl (by kernel_rfl) Tryd.func13 (by kernel_rfl)
    (of_decide_eq_true (by kernel_rfl)) (by unfold Func.isWrapper; first | (rw [if_pos (by decide +kernel)]; kernel_rfl) | (rw [if_neg (by decide +kernel)]; exact ⟨rfl, rfl⟩))
    (fun os started H enc _ => catalogBack_lifted os started H enc)

theorem catalogBack_card : Rows.CatalogBackCardSaid :=
  Claim7.holds_tied_plain_at .later [] [.data, .data, .data, .sentinel, .sentinel] true (true, "89777e4cd8e7b23e94fe87244865969eb1081972b1796485f89b3715c7b38b7d") true
    catalogBack_row (fun _ h => by cases h) (by kernel_rfl) (fun _ h => by cases h) catalogBack_row_tie rfl ⟨rfl, rfl⟩ (by kernel_rfl) rfl
    (fun f fn hf hfn => by
      obtain rfl : f = 13 := Option.some.inj ((show Tryd.prog.funcNamed "cipherplan/cipherplanlaw02.CatalogBack" = some 13 by kernel_rfl).symm.trans hf) |>.symm
      obtain rfl : fn = Tryd.f13 := (Option.some.inj (Tryd.func13.symm.trans hfn)).symm
      exact ⟨by kernel_rfl, fun j t ht => by
        rw [Tryd.params13] at ht
        have h3 : t = 22 := by
          rcases j with _ | j
          · simp at ht; exact ht.symm
          · simp at ht
        subst h3
        · exact (show Tryd.prog.wantsStandIn 22 = false by kernel_rfl)
        ⟩)
    (by kernel_rfl)
#print axioms catalogBack_card
end Go.Proofs.YtdjmgokhpganaaaDoor
end
