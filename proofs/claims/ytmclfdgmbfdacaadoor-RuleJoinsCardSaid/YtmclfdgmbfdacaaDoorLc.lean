/- The functions of the program that the law reaches: their contracts at this seat. -/
import Derived.Test.YtmclfdgmbfdacaaDoorLibB
import Derived.Test.YtmclfdgmbfdacaaDoorRe
import Derived.Test.YtmclfdgmbfdacaaDoorRd
import Derived.KernelRfl
set_option linter.unusedVariables false
set_option linter.unusedSimpArgs false
section
namespace Go.Proofs.YtmclfdgmbfdacaaDoor
open Go Av Go.RowKit
set_option maxRecDepth 100000
set_option linter.unusedVariables false
theorem has_make_Light : Has Tryd.prog 7 6 c_make_Light r_make_Light := ⟨Tryd.f7, _, Tryd.func7, by decide, rfl, rfl, by kernel_rfl, by kernel_rfl⟩
theorem E_make_Light (W : World) (hW : WOK W) : CE_make_Light (envW Tryd.prog W) 7 := ev_make_Light (Γ := envW Tryd.prog W) has_make_Light
theorem has_rule_line__is : Has Tryd.prog 70 29 c_rule_line__is r_rule_line__is := ⟨Tryd.f70, _, Tryd.func70, by decide, rfl, rfl, by kernel_rfl, by kernel_rfl⟩
theorem E_rule_line__is (W : World) (hW : WOK W) : CE_rule_line__is (envW Tryd.prog W) 70 := ev_rule_line__is (Γ := envW Tryd.prog W) has_rule_line__is
theorem has_rule_line__next : Has Tryd.prog 71 25 c_rule_line__next r_rule_line__next := ⟨Tryd.f71, _, Tryd.func71, by decide, rfl, rfl, by kernel_rfl, by kernel_rfl⟩
theorem E_rule_line__next (W : World) (hW : WOK W) : CE_rule_line__next (envW Tryd.prog W) 71 := ev_rule_line__next (Γ := envW Tryd.prog W) has_rule_line__next
theorem has_catalog_rows : Has Tryd.prog 77 46 c_catalog_rows r_catalog_rows := ⟨Tryd.f77, _, Tryd.func77, by decide, rfl, rfl, by kernel_rfl, by kernel_rfl⟩
theorem E_catalog_rows (W : World) (hW : WOK W) : CE_catalog_rows (envW Tryd.prog W) 77 := ev_catalog_rows (Γ := envW Tryd.prog W) has_catalog_rows
theorem has_catalog_Find : Has Tryd.prog 72 20 (c_catalog_Find 77) r_catalog_Find := ⟨Tryd.f72, _, Tryd.func72, by decide, rfl, rfl, by kernel_rfl, by kernel_rfl⟩
theorem E_catalog_Find (W : World) (hW : WOK W) : CE_catalog_Find (envW Tryd.prog W) 72 := ev_catalog_Find (Γ := envW Tryd.prog W) has_catalog_Find (E_catalog_rows W hW)
theorem has_rule_part : Has Tryd.prog 73 26 (c_rule_part 70 71) r_rule_part := ⟨Tryd.f73, _, Tryd.func73, by decide, rfl, rfl, by kernel_rfl, by kernel_rfl⟩
theorem E_rule_part (W : World) (hW : WOK W) : CE_rule_part (envW Tryd.prog W) 73 := ev_rule_part (Γ := envW Tryd.prog W) has_rule_part (E_rule_line__is W hW) (E_rule_line__next W hW)
theorem has_rule_decimal : Has Tryd.prog 88 47 (c_rule_decimal 99) r_rule_decimal := ⟨Tryd.f88, _, Tryd.func88, by decide, rfl, rfl, by kernel_rfl, by kernel_rfl⟩
theorem E_rule_decimal (W : World) (hW : WOK W) : CE_rule_decimal (envW Tryd.prog W) 88 := ev_rule_decimal (Γ := envW Tryd.prog W) has_rule_decimal (E_strconv_Atoi W hW)
theorem has_rule_number : Has Tryd.prog 74 9 (c_rule_number 88) r_rule_number := ⟨Tryd.f74, _, Tryd.func74, by decide, rfl, rfl, by kernel_rfl, by kernel_rfl⟩
theorem E_rule_number (W : World) (hW : WOK W) : CE_rule_number (envW Tryd.prog W) 74 := ev_rule_number (Γ := envW Tryd.prog W) has_rule_number (E_rule_decimal W hW)
theorem has_rule_purposes : Has Tryd.prog 26 2 c_rule_purposes r_rule_purposes := ⟨Tryd.f26, _, Tryd.func26, by decide, rfl, rfl, by kernel_rfl, by kernel_rfl⟩
theorem E_rule_purposes (W : World) (hW : WOK W) : CE_rule_purposes (envW Tryd.prog W) 26 := ev_rule_purposes (Γ := envW Tryd.prog W) has_rule_purposes
theorem has_slices_Index___string_string : Has Tryd.prog 100 19 c_slices_Index___string_string r_slices_Index___string_string := ⟨Tryd.f100, _, Tryd.func100, by decide, rfl, rfl, by kernel_rfl, by kernel_rfl⟩
theorem E_slices_Index___string_string (W : World) (hW : WOK W) : CE_slices_Index___string_string (envW Tryd.prog W) 100 := ev_slices_Index___string_string (Γ := envW Tryd.prog W) has_slices_Index___string_string
theorem has_rule_Purpose : Has Tryd.prog 89 9 (c_rule_Purpose 26 100) r_rule_Purpose := ⟨Tryd.f89, _, Tryd.func89, by decide, rfl, rfl, by kernel_rfl, by kernel_rfl⟩
theorem E_rule_Purpose (W : World) (hW : WOK W) : CE_rule_Purpose (envW Tryd.prog W) 89 := ev_rule_Purpose (Γ := envW Tryd.prog W) has_rule_Purpose (E_rule_purposes W hW) (E_slices_Index___string_string W hW)
theorem has_rule_purpose : Has Tryd.prog 75 11 (c_rule_purpose 89) r_rule_purpose := ⟨Tryd.f75, _, Tryd.func75, by decide, rfl, rfl, by kernel_rfl, by kernel_rfl⟩
theorem E_rule_purpose (W : World) (hW : WOK W) : CE_rule_purpose (envW Tryd.prog W) 75 := ev_rule_purpose (Γ := envW Tryd.prog W) has_rule_purpose (E_rule_Purpose W hW)
theorem has_rule_rule : Has Tryd.prog 58 58 (c_rule_rule 70 71 72 73 74 75) r_rule_rule := ⟨Tryd.f58, _, Tryd.func58, by decide, rfl, rfl, by kernel_rfl, by kernel_rfl⟩
theorem E_rule_rule (W : World) (hW : WOK W) : CE_rule_rule (envW Tryd.prog W) 58 := ev_rule_rule (Γ := envW Tryd.prog W) has_rule_rule (E_rule_line__is W hW) (E_rule_line__next W hW) (E_catalog_Find W hW) (E_rule_part W hW) (E_rule_number W hW) (E_rule_purpose W hW)
theorem has_rule_keep : Has Tryd.prog 59 40 (c_rule_keep 70 71 75 74) r_rule_keep := ⟨Tryd.f59, _, Tryd.func59, by decide, rfl, rfl, by kernel_rfl, by kernel_rfl⟩
theorem E_rule_keep (W : World) (hW : WOK W) : CE_rule_keep (envW Tryd.prog W) 59 := ev_rule_keep (Γ := envW Tryd.prog W) has_rule_keep (E_rule_line__is W hW) (E_rule_line__next W hW) (E_rule_purpose W hW) (E_rule_number W hW)
theorem has_rule_read : Has Tryd.prog 31 49 (c_rule_read 30 58 59) r_rule_read := ⟨Tryd.f31, _, Tryd.func31, by decide, rfl, rfl, by kernel_rfl, by kernel_rfl⟩
theorem E_rule_read (W : World) (hW : WOK W) : CE_rule_read (envW Tryd.prog W) 31 := ev_rule_read (Γ := envW Tryd.prog W) has_rule_read (E_strings_Split W hW) (E_rule_rule W hW) (E_rule_keep W hW)
theorem has_slices_IndexFunc___api_Rule_api_Rule : Has Tryd.prog 62 19 c_slices_IndexFunc___api_Rule_api_Rule r_slices_IndexFunc___api_Rule_api_Rule := ⟨Tryd.f62, _, Tryd.func62, by decide, rfl, rfl, by kernel_rfl, by kernel_rfl⟩
theorem E_slices_IndexFunc___api_Rule_api_Rule (W : World) (hW : WOK W) : CE_slices_IndexFunc___api_Rule_api_Rule (envW Tryd.prog W) 62 := ev_slices_IndexFunc___api_Rule_api_Rule (Γ := envW Tryd.prog W) has_slices_IndexFunc___api_Rule_api_Rule
theorem has_slices_ContainsFunc___api_Rule_api_Rule : Has Tryd.prog 43 9 (c_slices_ContainsFunc___api_Rule_api_Rule 62) r_slices_ContainsFunc___api_Rule_api_Rule := ⟨Tryd.f43, _, Tryd.func43, by decide, rfl, rfl, by kernel_rfl, by kernel_rfl⟩
theorem E_slices_ContainsFunc___api_Rule_api_Rule (W : World) (hW : WOK W) : CE_slices_ContainsFunc___api_Rule_api_Rule (envW Tryd.prog W) 43 := ev_slices_ContainsFunc___api_Rule_api_Rule (Γ := envW Tryd.prog W) has_slices_ContainsFunc___api_Rule_api_Rule (E_slices_IndexFunc___api_Rule_api_Rule W hW)
theorem has_rule_ruled : Has Tryd.prog 45 48 c_rule_ruled r_rule_ruled := ⟨Tryd.f45, _, Tryd.func45, by decide, rfl, rfl, by kernel_rfl, by kernel_rfl⟩
theorem E_rule_ruled (W : World) (hW : WOK W) : CE_rule_ruled (envW Tryd.prog W) 45 := ev_rule_ruled (Γ := envW Tryd.prog W) has_rule_ruled
theorem has_rule_Check_1 : Has Tryd.prog 44 6 (c_rule_Check_1 45) r_rule_Check_1 := ⟨Tryd.f44, _, Tryd.func44, by decide, rfl, rfl, by kernel_rfl, by kernel_rfl⟩
theorem E_rule_Check_1 (W : World) (hW : WOK W) : CE_rule_Check_1 (envW Tryd.prog W) 44 := ev_rule_Check_1 (Γ := envW Tryd.prog W) has_rule_Check_1 (E_rule_ruled W hW)
theorem has_slices_IndexFunc___api_Keep_api_Keep : Has Tryd.prog 63 19 c_slices_IndexFunc___api_Keep_api_Keep r_slices_IndexFunc___api_Keep_api_Keep := ⟨Tryd.f63, _, Tryd.func63, by decide, rfl, rfl, by kernel_rfl, by kernel_rfl⟩
theorem E_slices_IndexFunc___api_Keep_api_Keep (W : World) (hW : WOK W) : CE_slices_IndexFunc___api_Keep_api_Keep (envW Tryd.prog W) 63 := ev_slices_IndexFunc___api_Keep_api_Keep (Γ := envW Tryd.prog W) has_slices_IndexFunc___api_Keep_api_Keep
theorem has_slices_ContainsFunc___api_Keep_api_Keep : Has Tryd.prog 46 9 (c_slices_ContainsFunc___api_Keep_api_Keep 63) r_slices_ContainsFunc___api_Keep_api_Keep := ⟨Tryd.f46, _, Tryd.func46, by decide, rfl, rfl, by kernel_rfl, by kernel_rfl⟩
theorem E_slices_ContainsFunc___api_Keep_api_Keep (W : World) (hW : WOK W) : CE_slices_ContainsFunc___api_Keep_api_Keep (envW Tryd.prog W) 46 := ev_slices_ContainsFunc___api_Keep_api_Keep (Γ := envW Tryd.prog W) has_slices_ContainsFunc___api_Keep_api_Keep (E_slices_IndexFunc___api_Keep_api_Keep W hW)
theorem has_rule_kept : Has Tryd.prog 48 21 c_rule_kept r_rule_kept := ⟨Tryd.f48, _, Tryd.func48, by decide, rfl, rfl, by kernel_rfl, by kernel_rfl⟩
theorem E_rule_kept (W : World) (hW : WOK W) : CE_rule_kept (envW Tryd.prog W) 48 := ev_rule_kept (Γ := envW Tryd.prog W) has_rule_kept
theorem has_rule_Check_2 : Has Tryd.prog 47 6 (c_rule_Check_2 48) r_rule_Check_2 := ⟨Tryd.f47, _, Tryd.func47, by decide, rfl, rfl, by kernel_rfl, by kernel_rfl⟩
theorem E_rule_Check_2 (W : World) (hW : WOK W) : CE_rule_Check_2 (envW Tryd.prog W) 47 := ev_rule_Check_2 (Γ := envW Tryd.prog W) has_rule_Check_2 (E_rule_kept W hW)
theorem has_rule_Check : Has Tryd.prog 23 25 (c_rule_Check 43 44 46 47) r_rule_Check := ⟨Tryd.f23, _, Tryd.func23, by decide, rfl, rfl, by kernel_rfl, by kernel_rfl⟩
theorem E_rule_Check (W : World) (hW : WOK W) : CE_rule_Check (envW Tryd.prog W) 23 := ev_rule_Check (Γ := envW Tryd.prog W) has_rule_Check (E_slices_ContainsFunc___api_Rule_api_Rule W hW) (E_rule_Check_1 W hW) (E_slices_ContainsFunc___api_Keep_api_Keep W hW) (E_rule_Check_2 W hW)
theorem has_rule_Parse : Has Tryd.prog 17 83 (c_rule_Parse 29 30 31 23) r_rule_Parse := ⟨Tryd.f17, _, Tryd.func17, by decide, rfl, rfl, by kernel_rfl, by kernel_rfl⟩
theorem E_rule_Parse (W : World) (hW : WOK W) : CE_rule_Parse (envW Tryd.prog W) 17 := ev_rule_Parse (Γ := envW Tryd.prog W) has_rule_Parse (E_strings_Count W hW) (E_strings_Split W hW) (E_rule_read W hW) (E_rule_Check W hW)
theorem has_law17_awake : Has Tryd.prog 8 35 (c_law17_awake 17) r_law17_awake := ⟨Tryd.f8, _, Tryd.func8, by decide, rfl, rfl, by kernel_rfl, by kernel_rfl⟩
theorem E_law17_awake (W : World) (hW : WOK W) : CE_law17_awake (envW Tryd.prog W) 8 := ev_law17_awake (Γ := envW Tryd.prog W) has_law17_awake (E_rule_Parse W hW)
theorem has_make_Roll : Has Tryd.prog 9 6 c_make_Roll r_make_Roll := ⟨Tryd.f9, _, Tryd.func9, by decide, rfl, rfl, by kernel_rfl, by kernel_rfl⟩
theorem E_make_Roll (W : World) (hW : WOK W) : CE_make_Roll (envW Tryd.prog W) 9 := ev_make_Roll (Γ := envW Tryd.prog W) has_make_Roll
theorem has_make_Mod : Has Tryd.prog 11 14 c_make_Mod r_make_Mod := ⟨Tryd.f11, _, Tryd.func11, by decide, rfl, rfl, by kernel_rfl, by kernel_rfl⟩
theorem E_make_Mod (W : World) (hW : WOK W) : CE_make_Mod (envW Tryd.prog W) 11 := ev_make_Mod (Γ := envW Tryd.prog W) has_make_Mod
theorem has_make_Dice__Next : Has Tryd.prog 12 35 (c_make_Dice__Next 11) r_make_Dice__Next := ⟨Tryd.f12, _, Tryd.func12, by decide, rfl, rfl, by kernel_rfl, by kernel_rfl⟩
theorem E_make_Dice__Next (W : World) (hW : WOK W) : CE_make_Dice__Next (envW Tryd.prog W) 12 := ev_make_Dice__Next (Γ := envW Tryd.prog W) has_make_Dice__Next (E_make_Mod W hW)
theorem has_make_Dice__One : Has Tryd.prog 22 11 (c_make_Dice__One 12) r_make_Dice__One := ⟨Tryd.f22, _, Tryd.func22, by decide, rfl, rfl, by kernel_rfl, by kernel_rfl⟩
theorem E_make_Dice__One (W : World) (hW : WOK W) : CE_make_Dice__One (envW Tryd.prog W) 22 := ev_make_Dice__One (Γ := envW Tryd.prog W) has_make_Dice__One (E_make_Dice__Next W hW)
theorem has_make_Dice__Of : Has Tryd.prog 13 12 (c_make_Dice__Of 12) r_make_Dice__Of := ⟨Tryd.f13, _, Tryd.func13, by decide, rfl, rfl, by kernel_rfl, by kernel_rfl⟩
theorem E_make_Dice__Of (W : World) (hW : WOK W) : CE_make_Dice__Of (envW Tryd.prog W) 13 := ev_make_Dice__Of (Γ := envW Tryd.prog W) has_make_Dice__Of (E_make_Dice__Next W hW)
theorem has_make_Policy : Has Tryd.prog 15 71 (c_make_Policy 12 22 13) r_make_Policy := ⟨Tryd.f15, _, Tryd.func15, by decide, rfl, rfl, by kernel_rfl, by kernel_rfl⟩
theorem E_make_Policy (W : World) (hW : WOK W) : CE_make_Policy (envW Tryd.prog W) 15 := ev_make_Policy (Γ := envW Tryd.prog W) has_make_Policy (E_make_Dice__Next W hW) (E_make_Dice__One W hW) (E_make_Dice__Of W hW)
theorem has_catalog_of : Has Tryd.prog 65 14 (c_catalog_of 77) r_catalog_of := ⟨Tryd.f65, _, Tryd.func65, by decide, rfl, rfl, by kernel_rfl, by kernel_rfl⟩
theorem E_catalog_of (W : World) (hW : WOK W) : CE_catalog_of (envW Tryd.prog W) 65 := ev_catalog_of (Γ := envW Tryd.prog W) has_catalog_of (E_catalog_rows W hW)
theorem has_catalog_Name : Has Tryd.prog 50 12 (c_catalog_Name 65) r_catalog_Name := ⟨Tryd.f50, _, Tryd.func50, by decide, rfl, rfl, by kernel_rfl, by kernel_rfl⟩
theorem E_catalog_Name (W : World) (hW : WOK W) : CE_catalog_Name (envW Tryd.prog W) 50 := ev_catalog_Name (Γ := envW Tryd.prog W) has_catalog_Name (E_catalog_of W hW)
theorem has_rule_printed_1 : Has Tryd.prog 51 13 c_rule_printed_1 r_rule_printed_1 := ⟨Tryd.f51, _, Tryd.func51, by decide, rfl, rfl, by kernel_rfl, by kernel_rfl⟩
theorem E_rule_printed_1 (W : World) (hW : WOK W) : CE_rule_printed_1 (envW Tryd.prog W) 51 := ev_rule_printed_1 (Γ := envW Tryd.prog W) has_rule_printed_1
theorem has_rule_printed : Has Tryd.prog 25 56 (c_rule_printed 50 51 27 26 52) r_rule_printed := ⟨Tryd.f25, _, Tryd.func25, by decide, rfl, rfl, by kernel_rfl, by kernel_rfl⟩
theorem E_rule_printed (W : World) (hW : WOK W) : CE_rule_printed (envW Tryd.prog W) 25 := ev_rule_printed (Γ := envW Tryd.prog W) has_rule_printed (E_catalog_Name W hW) (E_rule_printed_1 W hW) (E_strconv_Itoa W hW) (E_rule_purposes W hW) (E_strings_Join W hW)
theorem has_strings_Builder__WriteString : Has Tryd.prog 24 19 (c_strings_Builder__WriteString 49 (bytT Tryd.prog)) r_strings_Builder__WriteString := ⟨Tryd.f24, _, Tryd.func24, by decide, rfl, rfl, by kernel_rfl, by kernel_rfl⟩
theorem E_strings_Builder__WriteString (W : World) (hW : WOK W) : CE_strings_Builder__WriteString (envW Tryd.prog W) 24 := ev_strings_Builder__WriteString (Γ := envW Tryd.prog W) has_strings_Builder__WriteString rfl (E_strings_Builder__copyCheck W hW)
theorem has_rule_Print : Has Tryd.prog 16 48 (c_rule_Print 23 (bldT Tryd.prog) 25 24 26 27 28) r_rule_Print := ⟨Tryd.f16, _, Tryd.func16, by decide, rfl, rfl, by kernel_rfl, by kernel_rfl⟩
theorem E_rule_Print (W : World) (hW : WOK W) : CE_rule_Print (envW Tryd.prog W) 16 := ev_rule_Print (Γ := envW Tryd.prog W) has_rule_Print rfl (E_rule_Check W hW) (E_rule_printed W hW) (E_strings_Builder__WriteString W hW) (E_rule_purposes W hW) (E_strconv_Itoa W hW) (E_strings_Builder__String W hW)
theorem has_slices_Equal___api_Rule_api_Rule : Has Tryd.prog 32 26 c_slices_Equal___api_Rule_api_Rule r_slices_Equal___api_Rule_api_Rule := ⟨Tryd.f32, _, Tryd.func32, by decide, rfl, rfl, by kernel_rfl, by kernel_rfl⟩
theorem E_slices_Equal___api_Rule_api_Rule (W : World) (hW : WOK W) : CE_slices_Equal___api_Rule_api_Rule (envW Tryd.prog W) 32 := ev_slices_Equal___api_Rule_api_Rule (Γ := envW Tryd.prog W) has_slices_Equal___api_Rule_api_Rule
theorem has_slices_Equal___api_Keep_api_Keep : Has Tryd.prog 33 26 c_slices_Equal___api_Keep_api_Keep r_slices_Equal___api_Keep_api_Keep := ⟨Tryd.f33, _, Tryd.func33, by decide, rfl, rfl, by kernel_rfl, by kernel_rfl⟩
theorem E_slices_Equal___api_Keep_api_Keep (W : World) (hW : WOK W) : CE_slices_Equal___api_Keep_api_Keep (envW Tryd.prog W) 33 := ev_slices_Equal___api_Keep_api_Keep (Γ := envW Tryd.prog W) has_slices_Equal___api_Keep_api_Keep
theorem has_rule_Same : Has Tryd.prog 18 17 (c_rule_Same 32 33) r_rule_Same := ⟨Tryd.f18, _, Tryd.func18, by decide, rfl, rfl, by kernel_rfl, by kernel_rfl⟩
theorem E_rule_Same (W : World) (hW : WOK W) : CE_rule_Same (envW Tryd.prog W) 18 := ev_rule_Same (Γ := envW Tryd.prog W) has_rule_Same (E_slices_Equal___api_Rule_api_Rule W hW) (E_slices_Equal___api_Keep_api_Keep W hW)
theorem has_make_Dice__Word : Has Tryd.prog 19 12 (c_make_Dice__Word 12) r_make_Dice__Word := ⟨Tryd.f19, _, Tryd.func19, by decide, rfl, rfl, by kernel_rfl, by kernel_rfl⟩
theorem E_make_Dice__Word (W : World) (hW : WOK W) : CE_make_Dice__Word (envW Tryd.prog W) 19 := ev_make_Dice__Word (Γ := envW Tryd.prog W) has_make_Dice__Word (E_make_Dice__Next W hW)
theorem has_law17_text : Has Tryd.prog 10 52 (c_law17_text 12 19) r_law17_text := ⟨Tryd.f10, _, Tryd.func10, by decide, rfl, rfl, by kernel_rfl, by kernel_rfl⟩
theorem E_law17_text (W : World) (hW : WOK W) : CE_law17_text (envW Tryd.prog W) 10 := ev_law17_text (Γ := envW Tryd.prog W) has_law17_text (E_make_Dice__Next W hW) (E_make_Dice__Word W hW)
end Go.Proofs.YtmclfdgmbfdacaaDoor
end
