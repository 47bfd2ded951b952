/- The functions of the program that the law reaches: their contracts at this seat. -/
import Derived.Test.YtdjmgokhpganaaaDoorLib
import Derived.Test.YtdjmgokhpganaaaDoorTextsW
import Derived.KernelRfl
import Derived.Test.YtdjmgokhpganaaaDoorRow
import Derived.Test.YtdjmgokhpganaaaDoorCards
import Derived.Test.YtdjmgokhpganaaaDoorTie
set_option linter.unusedVariables false
set_option linter.unusedSimpArgs false
section
namespace Go.Proofs.YtdjmgokhpganaaaDoor
open Go Av Go.RowKit
set_option maxRecDepth 100000
set_option linter.unusedVariables false
theorem has_cipherplanmake_Light : Has Tryd.prog 14 6 c_cipherplanmake_Light r_cipherplanmake_Light := ⟨Tryd.f14, _, Tryd.func14, by decide, rfl, rfl, by kernel_rfl, by kernel_rfl⟩
theorem E_cipherplanmake_Light (W : World) (hW : WOK W) : CE_cipherplanmake_Light (envW Tryd.prog W) 14 := ev_cipherplanmake_Light (Γ := envW Tryd.prog W) has_cipherplanmake_Light 
theorem has_catalog_rows : Has Tryd.prog 89 46 c_catalog_rows r_catalog_rows := ⟨Tryd.f89, _, Tryd.func89, by decide, rfl, rfl, by kernel_rfl, by kernel_rfl⟩
theorem E_catalog_rows (W : World) (hW : WOK W) : CE_catalog_rows (envW Tryd.prog W) 89 := ev_catalog_rows (Γ := envW Tryd.prog W) has_catalog_rows 
theorem has_catalog_Find : Has Tryd.prog 54 20 (c_catalog_Find 89) r_catalog_Find := ⟨Tryd.f54, _, Tryd.func54, by decide, rfl, rfl, by kernel_rfl, by kernel_rfl⟩
theorem E_catalog_Find (W : World) (hW : WOK W) : CE_catalog_Find (envW Tryd.prog W) 54 := ev_catalog_Find (Γ := envW Tryd.prog W) has_catalog_Find (E_catalog_rows W hW)
theorem has_catalog_of : Has Tryd.prog 78 14 (c_catalog_of 89) r_catalog_of := ⟨Tryd.f78, _, Tryd.func78, by decide, rfl, rfl, by kernel_rfl, by kernel_rfl⟩
theorem E_catalog_of (W : World) (hW : WOK W) : CE_catalog_of (envW Tryd.prog W) 78 := ev_catalog_of (Γ := envW Tryd.prog W) has_catalog_of (E_catalog_rows W hW)
theorem has_catalog_modulus : Has Tryd.prog 79 21 c_catalog_modulus r_catalog_modulus := ⟨Tryd.f79, _, Tryd.func79, by decide, rfl, rfl, by kernel_rfl, by kernel_rfl⟩
theorem E_catalog_modulus (W : World) (hW : WOK W) : CE_catalog_modulus (envW Tryd.prog W) 79 := ev_catalog_modulus (Γ := envW Tryd.prog W) has_catalog_modulus 
theorem has_slices_Index___int_int : Has Tryd.prog 80 19 c_slices_Index___int_int r_slices_Index___int_int := ⟨Tryd.f80, _, Tryd.func80, by decide, rfl, rfl, by kernel_rfl, by kernel_rfl⟩
theorem E_slices_Index___int_int (W : World) (hW : WOK W) : CE_slices_Index___int_int (envW Tryd.prog W) 80 := ev_slices_Index___int_int (Γ := envW Tryd.prog W) has_slices_Index___int_int 
theorem has_slices_Contains___int_int : Has Tryd.prog 71 9 (c_slices_Contains___int_int 80) r_slices_Contains___int_int := ⟨Tryd.f71, _, Tryd.func71, by decide, rfl, rfl, by kernel_rfl, by kernel_rfl⟩
theorem E_slices_Contains___int_int (W : World) (hW : WOK W) : CE_slices_Contains___int_int (envW Tryd.prog W) 71 := ev_slices_Contains___int_int (Γ := envW Tryd.prog W) has_slices_Contains___int_int (E_slices_Index___int_int W hW)
theorem has_catalog_Strength : Has Tryd.prog 41 61 (c_catalog_Strength 78 79 71 80) r_catalog_Strength := ⟨Tryd.f41, _, Tryd.func41, by decide, rfl, rfl, by kernel_rfl, by kernel_rfl⟩
theorem E_catalog_Strength (W : World) (hW : WOK W) : CE_catalog_Strength (envW Tryd.prog W) 41 := ev_catalog_Strength (Γ := envW Tryd.prog W) has_catalog_Strength (E_catalog_of W hW) (E_catalog_modulus W hW) (E_slices_Contains___int_int W hW) (E_slices_Index___int_int W hW)
theorem has_catalog_Valid : Has Tryd.prog 42 6 (c_catalog_Valid 41) r_catalog_Valid := ⟨Tryd.f42, _, Tryd.func42, by decide, rfl, rfl, by kernel_rfl, by kernel_rfl⟩
theorem E_catalog_Valid (W : World) (hW : WOK W) : CE_catalog_Valid (envW Tryd.prog W) 42 := ev_catalog_Valid (Γ := envW Tryd.prog W) has_catalog_Valid (E_catalog_Strength W hW)
theorem has_catalog_Name : Has Tryd.prog 48 12 (c_catalog_Name 78) r_catalog_Name := ⟨Tryd.f48, _, Tryd.func48, by decide, rfl, rfl, by kernel_rfl, by kernel_rfl⟩
theorem E_catalog_Name (W : World) (hW : WOK W) : CE_catalog_Name (envW Tryd.prog W) 48 := ev_catalog_Name (Γ := envW Tryd.prog W) has_catalog_Name (E_catalog_of W hW)
theorem has_catalog_Text : Has Tryd.prog 43 22 (c_catalog_Text 42 48 81) r_catalog_Text := ⟨Tryd.f43, _, Tryd.func43, by decide, rfl, rfl, by kernel_rfl, by kernel_rfl⟩
theorem E_catalog_Text (W : World) (hW : WOK W) : CE_catalog_Text (envW Tryd.prog W) 43 := ev_catalog_Text (Γ := envW Tryd.prog W) has_catalog_Text (E_catalog_Valid W hW) (E_catalog_Name W hW) (E_strconv_Itoa W hW)
theorem has_catalog_Parse : Has Tryd.prog 39 36 (c_catalog_Parse 75 76 54 42 43) r_catalog_Parse := ⟨Tryd.f39, _, Tryd.func39, by decide, rfl, rfl, by kernel_rfl, by kernel_rfl⟩
theorem E_catalog_Parse (W : World) (hW : WOK W) : CE_catalog_Parse (envW Tryd.prog W) 39 := ev_catalog_Parse (Γ := envW Tryd.prog W) has_catalog_Parse (E_strings_Cut W hW) (E_strconv_Atoi W hW) (E_catalog_Find W hW) (E_catalog_Valid W hW) (E_catalog_Text W hW)
theorem has_catalog_use : Has Tryd.prog 82 8 c_catalog_use r_catalog_use := ⟨Tryd.f82, _, Tryd.func82, by decide, rfl, rfl, by kernel_rfl, by kernel_rfl⟩
theorem E_catalog_use (W : World) (hW : WOK W) : CE_catalog_use (envW Tryd.prog W) 82 := ev_catalog_use (Γ := envW Tryd.prog W) has_catalog_use 
theorem has_catalog_Suites : Has Tryd.prog 44 125 (c_catalog_Suites 82) r_catalog_Suites := ⟨Tryd.f44, _, Tryd.func44, by decide, rfl, rfl, by kernel_rfl, by kernel_rfl⟩
theorem E_catalog_Suites (W : World) (hW : WOK W) : CE_catalog_Suites (envW Tryd.prog W) 44 := ev_catalog_Suites (Γ := envW Tryd.prog W) has_catalog_Suites (E_catalog_use W hW)
theorem has_cipherplanlaw02_awake : Has Tryd.prog 36 31 (c_cipherplanlaw02_awake 39 43 41 44) r_cipherplanlaw02_awake := ⟨Tryd.f36, _, Tryd.func36, by decide, rfl, rfl, by kernel_rfl, by kernel_rfl⟩
theorem E_cipherplanlaw02_awake (W : World) (hW : WOK W) : CE_cipherplanlaw02_awake (envW Tryd.prog W) 36 := ev_cipherplanlaw02_awake (Γ := envW Tryd.prog W) has_cipherplanlaw02_awake (E_catalog_Parse W hW) (E_catalog_Text W hW) (E_catalog_Strength W hW) (E_catalog_Suites W hW)
theorem has_cipherplanmake_Roll : Has Tryd.prog 16 6 c_cipherplanmake_Roll r_cipherplanmake_Roll := ⟨Tryd.f16, _, Tryd.func16, by decide, rfl, rfl, by kernel_rfl, by kernel_rfl⟩
theorem E_cipherplanmake_Roll (W : World) (hW : WOK W) : CE_cipherplanmake_Roll (envW Tryd.prog W) 16 := ev_cipherplanmake_Roll (Γ := envW Tryd.prog W) has_cipherplanmake_Roll 
theorem has_cipherplanmake_Mod : Has Tryd.prog 18 14 c_cipherplanmake_Mod r_cipherplanmake_Mod := ⟨Tryd.f18, _, Tryd.func18, by decide, rfl, rfl, by kernel_rfl, by kernel_rfl⟩
theorem E_cipherplanmake_Mod (W : World) (hW : WOK W) : CE_cipherplanmake_Mod (envW Tryd.prog W) 18 := ev_cipherplanmake_Mod (Γ := envW Tryd.prog W) has_cipherplanmake_Mod 
theorem has_cipherplanmake_Dice__Next : Has Tryd.prog 19 35 (c_cipherplanmake_Dice__Next 18) r_cipherplanmake_Dice__Next := ⟨Tryd.f19, _, Tryd.func19, by decide, rfl, rfl, by kernel_rfl, by kernel_rfl⟩
theorem E_cipherplanmake_Dice__Next (W : World) (hW : WOK W) : CE_cipherplanmake_Dice__Next (envW Tryd.prog W) 19 := ev_cipherplanmake_Dice__Next (Γ := envW Tryd.prog W) has_cipherplanmake_Dice__Next (E_cipherplanmake_Mod W hW)
theorem has_cipherplanmake_Dice__Of : Has Tryd.prog 20 12 (c_cipherplanmake_Dice__Of 19) r_cipherplanmake_Dice__Of := ⟨Tryd.f20, _, Tryd.func20, by decide, rfl, rfl, by kernel_rfl, by kernel_rfl⟩
theorem E_cipherplanmake_Dice__Of (W : World) (hW : WOK W) : CE_cipherplanmake_Dice__Of (envW Tryd.prog W) 20 := ev_cipherplanmake_Dice__Of (Γ := envW Tryd.prog W) has_cipherplanmake_Dice__Of (E_cipherplanmake_Dice__Next W hW)
theorem has_cipherplanmake_size : Has Tryd.prog 74 46 (c_cipherplanmake_size 20) r_cipherplanmake_size := ⟨Tryd.f74, _, Tryd.func74, by decide, rfl, rfl, by kernel_rfl, by kernel_rfl⟩
theorem E_cipherplanmake_size (W : World) (hW : WOK W) : CE_cipherplanmake_size (envW Tryd.prog W) 74 := ev_cipherplanmake_size (Γ := envW Tryd.prog W) has_cipherplanmake_size (E_cipherplanmake_Dice__Of W hW)
theorem has_cipherplanmake_Use : Has Tryd.prog 38 12 (c_cipherplanmake_Use 19 74) r_cipherplanmake_Use := ⟨Tryd.f38, _, Tryd.func38, by decide, rfl, rfl, by kernel_rfl, by kernel_rfl⟩
theorem E_cipherplanmake_Use (W : World) (hW : WOK W) : CE_cipherplanmake_Use (envW Tryd.prog W) 38 := ev_cipherplanmake_Use (Γ := envW Tryd.prog W) has_cipherplanmake_Use (E_cipherplanmake_Dice__Next W hW) (E_cipherplanmake_size W hW)
theorem has_cipherplanref02_modulus : Has Tryd.prog 86 25 c_cipherplanref02_modulus r_cipherplanref02_modulus := ⟨Tryd.f86, _, Tryd.func86, by decide, rfl, rfl, by kernel_rfl, by kernel_rfl⟩
theorem E_cipherplanref02_modulus (W : World) (hW : WOK W) : CE_cipherplanref02_modulus (envW Tryd.prog W) 86 := ev_cipherplanref02_modulus (Γ := envW Tryd.prog W) has_cipherplanref02_modulus 
theorem has_cipherplanref02_among : Has Tryd.prog 87 24 c_cipherplanref02_among r_cipherplanref02_among := ⟨Tryd.f87, _, Tryd.func87, by decide, rfl, rfl, by kernel_rfl, by kernel_rfl⟩
theorem E_cipherplanref02_among (W : World) (hW : WOK W) : CE_cipherplanref02_among (envW Tryd.prog W) 87 := ev_cipherplanref02_among (Γ := envW Tryd.prog W) has_cipherplanref02_among 
theorem has_cipherplanref02_single : Has Tryd.prog 88 21 c_cipherplanref02_single r_cipherplanref02_single := ⟨Tryd.f88, _, Tryd.func88, by decide, rfl, rfl, by kernel_rfl, by kernel_rfl⟩
theorem E_cipherplanref02_single (W : World) (hW : WOK W) : CE_cipherplanref02_single (envW Tryd.prog W) 88 := ev_cipherplanref02_single (Γ := envW Tryd.prog W) has_cipherplanref02_single 
theorem has_cipherplanref02_Strength : Has Tryd.prog 53 76 (c_cipherplanref02_Strength 86 87 88) r_cipherplanref02_Strength := ⟨Tryd.f53, _, Tryd.func53, by decide, rfl, rfl, by kernel_rfl, by kernel_rfl⟩
theorem E_cipherplanref02_Strength (W : World) (hW : WOK W) : CE_cipherplanref02_Strength (envW Tryd.prog W) 53 := ev_cipherplanref02_Strength (Γ := envW Tryd.prog W) has_cipherplanref02_Strength (E_cipherplanref02_modulus W hW) (E_cipherplanref02_among W hW) (E_cipherplanref02_single W hW)
theorem has_cipherplanref02_Valid : Has Tryd.prog 52 6 (c_cipherplanref02_Valid 53) r_cipherplanref02_Valid := ⟨Tryd.f52, _, Tryd.func52, by decide, rfl, rfl, by kernel_rfl, by kernel_rfl⟩
theorem E_cipherplanref02_Valid (W : World) (hW : WOK W) : CE_cipherplanref02_Valid (envW Tryd.prog W) 52 := ev_cipherplanref02_Valid (Γ := envW Tryd.prog W) has_cipherplanref02_Valid (E_cipherplanref02_Strength W hW)
theorem has_cipherplanref02_rows : Has Tryd.prog 85 25 c_cipherplanref02_rows r_cipherplanref02_rows := ⟨Tryd.f85, _, Tryd.func85, by decide, rfl, rfl, by kernel_rfl, by kernel_rfl⟩
theorem E_cipherplanref02_rows (W : World) (hW : WOK W) : CE_cipherplanref02_rows (envW Tryd.prog W) 85 := ev_cipherplanref02_rows (Γ := envW Tryd.prog W) has_cipherplanref02_rows 
theorem has_cipherplanref02_Name : Has Tryd.prog 49 14 (c_cipherplanref02_Name 85) r_cipherplanref02_Name := ⟨Tryd.f49, _, Tryd.func49, by decide, rfl, rfl, by kernel_rfl, by kernel_rfl⟩
theorem E_cipherplanref02_Name (W : World) (hW : WOK W) : CE_cipherplanref02_Name (envW Tryd.prog W) 49 := ev_cipherplanref02_Name (Γ := envW Tryd.prog W) has_cipherplanref02_Name (E_cipherplanref02_rows W hW)
theorem has_cipherplanref02_Decimal : Has Tryd.prog 73 20 (c_cipherplanref02_Decimal 73) r_cipherplanref02_Decimal := ⟨Tryd.f73, _, Tryd.func73, by decide, rfl, rfl, by kernel_rfl, by kernel_rfl⟩
theorem E_cipherplanref02_Decimal (W : World) (hW : WOK W) : CE_cipherplanref02_Decimal (envW Tryd.prog W) 73 := ev_cipherplanref02_Decimal (Γ := envW Tryd.prog W) has_cipherplanref02_Decimal 
theorem has_cipherplanref02_Text : Has Tryd.prog 37 20 (c_cipherplanref02_Text 52 49 73) r_cipherplanref02_Text := ⟨Tryd.f37, _, Tryd.func37, by decide, rfl, rfl, by kernel_rfl, by kernel_rfl⟩
theorem E_cipherplanref02_Text (W : World) (hW : WOK W) : CE_cipherplanref02_Text (envW Tryd.prog W) 37 := ev_cipherplanref02_Text (Γ := envW Tryd.prog W) has_cipherplanref02_Text (E_cipherplanref02_Valid W hW) (E_cipherplanref02_Name W hW) (E_cipherplanref02_Decimal W hW)
theorem has_cipherplanref02_Number : Has Tryd.prog 77 49 c_cipherplanref02_Number r_cipherplanref02_Number := ⟨Tryd.f77, _, Tryd.func77, by decide, rfl, rfl, by kernel_rfl, by kernel_rfl⟩
theorem E_cipherplanref02_Number (W : World) (hW : WOK W) : CE_cipherplanref02_Number (envW Tryd.prog W) 77 := ev_cipherplanref02_Number (Γ := envW Tryd.prog W) has_cipherplanref02_Number 
theorem has_cipherplanref02_Find : Has Tryd.prog 55 16 (c_cipherplanref02_Find 85) r_cipherplanref02_Find := ⟨Tryd.f55, _, Tryd.func55, by decide, rfl, rfl, by kernel_rfl, by kernel_rfl⟩
theorem E_cipherplanref02_Find (W : World) (hW : WOK W) : CE_cipherplanref02_Find (envW Tryd.prog W) 55 := ev_cipherplanref02_Find (Γ := envW Tryd.prog W) has_cipherplanref02_Find (E_cipherplanref02_rows W hW)
theorem has_cipherplanref02_Parse : Has Tryd.prog 40 51 (c_cipherplanref02_Parse 77 55 52) r_cipherplanref02_Parse := ⟨Tryd.f40, _, Tryd.func40, by decide, rfl, rfl, by kernel_rfl, by kernel_rfl⟩
theorem E_cipherplanref02_Parse (W : World) (hW : WOK W) : CE_cipherplanref02_Parse (envW Tryd.prog W) 40 := ev_cipherplanref02_Parse (Γ := envW Tryd.prog W) has_cipherplanref02_Parse (E_cipherplanref02_Number W hW) (E_cipherplanref02_Find W hW) (E_cipherplanref02_Valid W hW)
theorem has_cipherplanlaw02_CatalogTexts : Has Tryd.prog 9 97 (c_cipherplanlaw02_CatalogTexts 14 36 16 38 37 18 39 40) r_cipherplanlaw02_CatalogTexts := ⟨Tryd.f9, _, Tryd.func9, by decide, rfl, rfl, by kernel_rfl, by kernel_rfl⟩
theorem E_cipherplanlaw02_CatalogTexts (W : World) (hW : WOK W) : CE_cipherplanlaw02_CatalogTexts (envW Tryd.prog W) 9 := ev_cipherplanlaw02_CatalogTexts (Γ := envW Tryd.prog W) has_cipherplanlaw02_CatalogTexts (E_cipherplanmake_Light W hW) (E_cipherplanlaw02_awake W hW) (E_cipherplanmake_Roll W hW) (E_cipherplanmake_Use W hW) (E_cipherplanref02_Text W hW) (E_cipherplanmake_Mod W hW) (E_catalog_Parse W hW) (E_cipherplanref02_Parse W hW)
end Go.Proofs.YtdjmgokhpganaaaDoor
end

section
namespace Go.Proofs.YtdjmgokhpganaaaDoor
open Go Av Go.RowKit Go.ChangeShapes Go.WideShapes Go.ChangeAt
set_option maxRecDepth 100000

theorem catalogTexts_own : Own Tryd.prog 9 := ⟨Tryd.f9, Tryd.func9, by decide, _, rfl⟩

theorem catalogTexts_lifted (os : Os) (started : os.Started) (H : Type) (enc : TypeId × Value → H) :
    ReturnsInHanded {} Tryd.checked os 9 .any (fun w args => (Rows.catalogTextsSpec.pre enc Tryd.prog Tryd.f9 [] false w args ∧ laidMet Tryd.prog catLaid w) ∧ sizedMet enc Tryd.prog Tryd.f9 (OpenSpec.ofChange Rows.catalogTextsSpec) false w args)
      (Rows.catalogTextsSpec.post enc Tryd.prog Tryd.f9 false true false false) := by
  refine law_lifted (C := Tryd.checked) (X := fun w => laidMet Tryd.prog catLaid w) (fun _ _ hh h => h.of_heap hh) Seat.own started (by kernel_rfl) Tryd.func9 H enc
    (ChangeSpec.witness_at (enc := enc) (C := Tryd.checked) (os := os) (X := fun w _ => laidMet Tryd.prog catLaid w) false (laidWorld os) #[.slice none 0 0, .int .i64 0, .int .u8 0, .int .u8 0] 8 rfl (by kernel_rfl) (by kernel_rfl) (by kernel_rfl) (by kernel_rfl) (by kernel_rfl) (laidWorld_met os _))
    Seat.kids (fun h => Seat.full _ _ h) (Seat.small Tryd.f9.params.toList (by kernel_rfl)) rfl
    (fun ds h => by match ds, h with | [_, _, _, _], _ => rfl) rfl Tryd.underlying4 ?_
  intro W args ds p hval hA hL hsh
  have hA : DataW.TrodAll enc Tryd.prog W 0 (fun _ => true) true Tryd.f9.params.toList args.toList ds p := hA
  have hval : ∀ (j : Nat) t v, Tryd.f9.params[j]? = some t → args[j]? = some v → Value.okWide Tryd.prog W .any 0 t v := hval
  rw [Tryd.params9] at hA hval
  obtain ⟨v0, vs0, d0, ds0, p0, q0, hargs0, rfl, rfl, h0, g0⟩ := trodAll_cons hA
  obtain ⟨v1, vs1, d1, ds1, p1, q1, hargs1, rfl, rfl, h1, g1⟩ := trodAll_cons g0
  obtain ⟨v2, vs2, d2, ds2, p2, q2, hargs2, rfl, rfl, h2, g2⟩ := trodAll_cons g1
  obtain ⟨v3, vs3, d3, ds3, p3, q3, hargs3, rfl, rfl, h3, g3⟩ := trodAll_cons g2
  obtain ⟨he, rfl, rfl⟩ := trodAll_nil g3
  obtain rfl : args = #[v0, v1, v2, v3] := by cases args; simp_all
  obtain ⟨a0, w0, x0, r0⟩ := arg_ints Tryd.underlying22 Tryd.underlying3 (by kernel_rfl) (hval 0 22 v0 rfl rfl) h0
  unfold Go.maxLen at w0
  obtain ⟨a1, w1, r1⟩ := arg_int Tryd.underlying3 (hval 1 3 v1 rfl rfl) h1
  obtain ⟨a2, w2, r2⟩ := arg_int Tryd.underlying5 (hval 2 5 v2 rfl rfl) h2
  have b2 := bounds_u8 w2
  obtain ⟨a3, w3, r3⟩ := arg_int Tryd.underlying5 (hval 3 5 v3 rfl rfl) h3
  have b3 := bounds_u8 w3
  refine calls_of_ev Seat.mix catalogTexts_own (E_cipherplanlaw02_CatalogTexts W (wok hL hsh) a0 a1 a2 a3 b2.1 b2.2 b3.1 b3.2) rfl fun i h h' => ?_
  match i, h with
  | 0, _ => exact r0
  | 1, _ => exact r1
  | 2, _ => exact r2
  | 3, _ => exact r3

theorem catalogTexts_row : Rows.CatalogTextsSaid :=
  OpenClaim.holds_of_wide 9 Tryd.f9 rfl rfl rfl rfl rfl rfl rfl ⟨rfl, rfl, rfl, rfl, rfl⟩ rfl rfl rfl rfl rfl (by kernel_rfl) Tryd.func9 (by kernel_rfl)
    (of_decide_eq_true (by kernel_rfl)) (by unfold Func.isWrapper; first | (rw [if_pos (by decide +kernel)]; kernel_rfl) | (rw [if_neg (by decide +kernel)]; exact ⟨rfl, rfl⟩))
    (fun os started H enc _ => catalogTexts_lifted os started H enc)

theorem catalogTexts_card : Rows.CatalogTextsCardSaid :=
  Claim7.holds_tied_plain_at .later [] [.data, .data, .data, .sentinel, .sentinel] true (true, "89777e4cd8e7b23e94fe87244865969eb1081972b1796485f89b3715c7b38b7d") true
    catalogTexts_row (fun _ h => by cases h) (by kernel_rfl) (fun _ h => by cases h) catalogTexts_row_tie rfl ⟨rfl, rfl⟩ (by kernel_rfl) rfl
    (fun f fn hf hfn => by
      obtain rfl : f = 9 := Option.some.inj ((show Tryd.prog.funcNamed "cipherplan/cipherplanlaw02.CatalogTexts" = some 9 by kernel_rfl).symm.trans hf) |>.symm
      obtain rfl : fn = Tryd.f9 := (Option.some.inj (Tryd.func9.symm.trans hfn)).symm
      exact ⟨by kernel_rfl, fun j t ht => by
        rw [Tryd.params9] at ht
        have h3 : t = 22 ∨ t = 3 ∨ t = 5 ∨ t = 5 := by
          rcases j with _ | _ | _ | _ | j
          · simp at ht; exact .inl ht.symm
          · simp at ht; exact .inr (.inl ht.symm)
          · simp at ht; exact .inr (.inr (.inl ht.symm))
          · simp at ht; exact .inr (.inr (.inr (ht.symm)))
          · simp at ht
        rcases h3 with rfl | rfl | rfl | rfl
        · exact (show Tryd.prog.wantsStandIn 22 = false by kernel_rfl)
        · exact (show Tryd.prog.wantsStandIn 3 = false by kernel_rfl)
        · exact (show Tryd.prog.wantsStandIn 5 = false by kernel_rfl)
        · exact (show Tryd.prog.wantsStandIn 5 = false by kernel_rfl)
        ⟩)
    (by kernel_rfl)
#print axioms catalogTexts_card
end Go.Proofs.YtdjmgokhpganaaaDoor
end
