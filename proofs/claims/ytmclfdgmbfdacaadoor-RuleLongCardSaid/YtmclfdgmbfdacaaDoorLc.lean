/- The functions of the program that the law reaches: their contracts at this seat. -/
import Derived.Test.YtmclfdgmbfdacaaDoorLib
import Derived.Test.YtmclfdgmbfdacaaDoorWo
import Derived.KernelRfl
set_option linter.unusedVariables false
set_option linter.unusedSimpArgs false
section
namespace Go.Proofs.YtmclfdgmbfdacaaDoor
open Go Av Go.RowKit
set_option maxRecDepth 100000
set_option linter.unusedVariables false
theorem has_make_Light : Has Tryd.prog 7 6 c_make_Light r_make_Light := ⟨Tryd.f7, _, Tryd.func7, by decide, rfl, rfl, by kernel_rfl, by kernel_rfl⟩
theorem E_make_Light (W : World) (hW : WOK W) : CE_make_Light (envW Tryd.prog W) 7 := ev_make_Light (Γ := envW Tryd.prog W) has_make_Light
theorem has_rule_line__is : Has Tryd.prog 70 29 c_rule_line__is r_rule_line__is := ⟨Tryd.f70, _, Tryd.func70, by decide, rfl, rfl, by kernel_rfl, by kernel_rfl⟩
theorem E_rule_line__is (W : World) (hW : WOK W) : CE_rule_line__is (envW Tryd.prog W) 70 := ev_rule_line__is (Γ := envW Tryd.prog W) has_rule_line__is
theorem has_rule_line__next : Has Tryd.prog 71 25 c_rule_line__next r_rule_line__next := ⟨Tryd.f71, _, Tryd.func71, by decide, rfl, rfl, by kernel_rfl, by kernel_rfl⟩
theorem E_rule_line__next (W : World) (hW : WOK W) : CE_rule_line__next (envW Tryd.prog W) 71 := ev_rule_line__next (Γ := envW Tryd.prog W) has_rule_line__next
theorem has_catalog_rows : Has Tryd.prog 77 46 c_catalog_rows r_catalog_rows := ⟨Tryd.f77, _, Tryd.func77, by decide, rfl, rfl, by kernel_rfl, by kernel_rfl⟩
theorem E_catalog_rows (W : World) (hW : WOK W) : CE_catalog_rows (envW Tryd.prog W) 77 := ev_catalog_rows (Γ := envW Tryd.prog W) has_catalog_rows
theorem has_catalog_Find : Has Tryd.prog 72 20 (c_catalog_Find 77) r_catalog_Find := ⟨Tryd.f72, _, Tryd.func72, by decide, rfl, rfl, by kernel_rfl, by kernel_rfl⟩
theorem E_catalog_Find (W : World) (hW : WOK W) : CE_catalog_Find (envW Tryd.prog W) 72 := ev_catalog_Find (Γ := envW Tryd.prog W) has_catalog_Find (E_catalog_rows W hW)
theorem has_rule_part : Has Tryd.prog 73 26 (c_rule_part 70 71) r_rule_part := ⟨Tryd.f73, _, Tryd.func73, by decide, rfl, rfl, by kernel_rfl, by kernel_rfl⟩
theorem E_rule_part (W : World) (hW : WOK W) : CE_rule_part (envW Tryd.prog W) 73 := ev_rule_part (Γ := envW Tryd.prog W) has_rule_part (E_rule_line__is W hW) (E_rule_line__next W hW)
theorem has_rule_decimal : Has Tryd.prog 88 47 (c_rule_decimal 99) r_rule_decimal := ⟨Tryd.f88, _, Tryd.func88, by decide, rfl, rfl, by kernel_rfl, by kernel_rfl⟩
theorem E_rule_decimal (W : World) (hW : WOK W) : CE_rule_decimal (envW Tryd.prog W) 88 := ev_rule_decimal (Γ := envW Tryd.prog W) has_rule_decimal (E_strconv_Atoi W hW)
theorem has_rule_number : Has Tryd.prog 74 9 (c_rule_number 88) r_rule_number := ⟨Tryd.f74, _, Tryd.func74, by decide, rfl, rfl, by kernel_rfl, by kernel_rfl⟩
theorem E_rule_number (W : World) (hW : WOK W) : CE_rule_number (envW Tryd.prog W) 74 := ev_rule_number (Γ := envW Tryd.prog W) has_rule_number (E_rule_decimal W hW)
theorem has_rule_purposes : Has Tryd.prog 26 2 c_rule_purposes r_rule_purposes := ⟨Tryd.f26, _, Tryd.func26, by decide, rfl, rfl, by kernel_rfl, by kernel_rfl⟩
theorem E_rule_purposes (W : World) (hW : WOK W) : CE_rule_purposes (envW Tryd.prog W) 26 := ev_rule_purposes (Γ := envW Tryd.prog W) has_rule_purposes
theorem has_slices_Index___string_string : Has Tryd.prog 100 19 c_slices_Index___string_string r_slices_Index___string_string := ⟨Tryd.f100, _, Tryd.func100, by decide, rfl, rfl, by kernel_rfl, by kernel_rfl⟩
theorem E_slices_Index___string_string (W : World) (hW : WOK W) : CE_slices_Index___string_string (envW Tryd.prog W) 100 := ev_slices_Index___string_string (Γ := envW Tryd.prog W) has_slices_Index___string_string
theorem has_rule_Purpose : Has Tryd.prog 89 9 (c_rule_Purpose 26 100) r_rule_Purpose := ⟨Tryd.f89, _, Tryd.func89, by decide, rfl, rfl, by kernel_rfl, by kernel_rfl⟩
theorem E_rule_Purpose (W : World) (hW : WOK W) : CE_rule_Purpose (envW Tryd.prog W) 89 := ev_rule_Purpose (Γ := envW Tryd.prog W) has_rule_Purpose (E_rule_purposes W hW) (E_slices_Index___string_string W hW)
theorem has_rule_purpose : Has Tryd.prog 75 11 (c_rule_purpose 89) r_rule_purpose := ⟨Tryd.f75, _, Tryd.func75, by decide, rfl, rfl, by kernel_rfl, by kernel_rfl⟩
theorem E_rule_purpose (W : World) (hW : WOK W) : CE_rule_purpose (envW Tryd.prog W) 75 := ev_rule_purpose (Γ := envW Tryd.prog W) has_rule_purpose (E_rule_Purpose W hW)
theorem has_rule_rule : Has Tryd.prog 58 58 (c_rule_rule 70 71 72 73 74 75) r_rule_rule := ⟨Tryd.f58, _, Tryd.func58, by decide, rfl, rfl, by kernel_rfl, by kernel_rfl⟩
theorem E_rule_rule (W : World) (hW : WOK W) : CE_rule_rule (envW Tryd.prog W) 58 := ev_rule_rule (Γ := envW Tryd.prog W) has_rule_rule (E_rule_line__is W hW) (E_rule_line__next W hW) (E_catalog_Find W hW) (E_rule_part W hW) (E_rule_number W hW) (E_rule_purpose W hW)
theorem has_rule_keep : Has Tryd.prog 59 40 (c_rule_keep 70 71 75 74) r_rule_keep := ⟨Tryd.f59, _, Tryd.func59, by decide, rfl, rfl, by kernel_rfl, by kernel_rfl⟩
theorem E_rule_keep (W : World) (hW : WOK W) : CE_rule_keep (envW Tryd.prog W) 59 := ev_rule_keep (Γ := envW Tryd.prog W) has_rule_keep (E_rule_line__is W hW) (E_rule_line__next W hW) (E_rule_purpose W hW) (E_rule_number W hW)
theorem has_rule_read : Has Tryd.prog 31 49 (c_rule_read 30 58 59) r_rule_read := ⟨Tryd.f31, _, Tryd.func31, by decide, rfl, rfl, by kernel_rfl, by kernel_rfl⟩
theorem E_rule_read (W : World) (hW : WOK W) : CE_rule_read (envW Tryd.prog W) 31 := ev_rule_read (Γ := envW Tryd.prog W) has_rule_read (E_strings_Split W hW) (E_rule_rule W hW) (E_rule_keep W hW)
theorem has_slices_IndexFunc___api_Rule_api_Rule : Has Tryd.prog 62 19 c_slices_IndexFunc___api_Rule_api_Rule r_slices_IndexFunc___api_Rule_api_Rule := ⟨Tryd.f62, _, Tryd.func62, by decide, rfl, rfl, by kernel_rfl, by kernel_rfl⟩
theorem E_slices_IndexFunc___api_Rule_api_Rule (W : World) (hW : WOK W) : CE_slices_IndexFunc___api_Rule_api_Rule (envW Tryd.prog W) 62 := ev_slices_IndexFunc___api_Rule_api_Rule (Γ := envW Tryd.prog W) has_slices_IndexFunc___api_Rule_api_Rule
theorem has_slices_ContainsFunc___api_Rule_api_Rule : Has Tryd.prog 43 9 (c_slices_ContainsFunc___api_Rule_api_Rule 62) r_slices_ContainsFunc___api_Rule_api_Rule := ⟨Tryd.f43, _, Tryd.func43, by decide, rfl, rfl, by kernel_rfl, by kernel_rfl⟩
theorem E_slices_ContainsFunc___api_Rule_api_Rule (W : World) (hW : WOK W) : CE_slices_ContainsFunc___api_Rule_api_Rule (envW Tryd.prog W) 43 := ev_slices_ContainsFunc___api_Rule_api_Rule (Γ := envW Tryd.prog W) has_slices_ContainsFunc___api_Rule_api_Rule (E_slices_IndexFunc___api_Rule_api_Rule W hW)
theorem has_rule_ruled : Has Tryd.prog 45 48 c_rule_ruled r_rule_ruled := ⟨Tryd.f45, _, Tryd.func45, by decide, rfl, rfl, by kernel_rfl, by kernel_rfl⟩
theorem E_rule_ruled (W : World) (hW : WOK W) : CE_rule_ruled (envW Tryd.prog W) 45 := ev_rule_ruled (Γ := envW Tryd.prog W) has_rule_ruled
theorem has_rule_Check_1 : Has Tryd.prog 44 6 (c_rule_Check_1 45) r_rule_Check_1 := ⟨Tryd.f44, _, Tryd.func44, by decide, rfl, rfl, by kernel_rfl, by kernel_rfl⟩
theorem E_rule_Check_1 (W : World) (hW : WOK W) : CE_rule_Check_1 (envW Tryd.prog W) 44 := ev_rule_Check_1 (Γ := envW Tryd.prog W) has_rule_Check_1 (E_rule_ruled W hW)
theorem has_slices_IndexFunc___api_Keep_api_Keep : Has Tryd.prog 63 19 c_slices_IndexFunc___api_Keep_api_Keep r_slices_IndexFunc___api_Keep_api_Keep := ⟨Tryd.f63, _, Tryd.func63, by decide, rfl, rfl, by kernel_rfl, by kernel_rfl⟩
theorem E_slices_IndexFunc___api_Keep_api_Keep (W : World) (hW : WOK W) : CE_slices_IndexFunc___api_Keep_api_Keep (envW Tryd.prog W) 63 := ev_slices_IndexFunc___api_Keep_api_Keep (Γ := envW Tryd.prog W) has_slices_IndexFunc___api_Keep_api_Keep
theorem has_slices_ContainsFunc___api_Keep_api_Keep : Has Tryd.prog 46 9 (c_slices_ContainsFunc___api_Keep_api_Keep 63) r_slices_ContainsFunc___api_Keep_api_Keep := ⟨Tryd.f46, _, Tryd.func46, by decide, rfl, rfl, by kernel_rfl, by kernel_rfl⟩
theorem E_slices_ContainsFunc___api_Keep_api_Keep (W : World) (hW : WOK W) : CE_slices_ContainsFunc___api_Keep_api_Keep (envW Tryd.prog W) 46 := ev_slices_ContainsFunc___api_Keep_api_Keep (Γ := envW Tryd.prog W) has_slices_ContainsFunc___api_Keep_api_Keep (E_slices_IndexFunc___api_Keep_api_Keep W hW)
theorem has_rule_kept : Has Tryd.prog 48 21 c_rule_kept r_rule_kept := ⟨Tryd.f48, _, Tryd.func48, by decide, rfl, rfl, by kernel_rfl, by kernel_rfl⟩
theorem E_rule_kept (W : World) (hW : WOK W) : CE_rule_kept (envW Tryd.prog W) 48 := ev_rule_kept (Γ := envW Tryd.prog W) has_rule_kept
theorem has_rule_Check_2 : Has Tryd.prog 47 6 (c_rule_Check_2 48) r_rule_Check_2 := ⟨Tryd.f47, _, Tryd.func47, by decide, rfl, rfl, by kernel_rfl, by kernel_rfl⟩
theorem E_rule_Check_2 (W : World) (hW : WOK W) : CE_rule_Check_2 (envW Tryd.prog W) 47 := ev_rule_Check_2 (Γ := envW Tryd.prog W) has_rule_Check_2 (E_rule_kept W hW)
theorem has_rule_Check : Has Tryd.prog 23 25 (c_rule_Check 43 44 46 47) r_rule_Check := ⟨Tryd.f23, _, Tryd.func23, by decide, rfl, rfl, by kernel_rfl, by kernel_rfl⟩
theorem E_rule_Check (W : World) (hW : WOK W) : CE_rule_Check (envW Tryd.prog W) 23 := ev_rule_Check (Γ := envW Tryd.prog W) has_rule_Check (E_slices_ContainsFunc___api_Rule_api_Rule W hW) (E_rule_Check_1 W hW) (E_slices_ContainsFunc___api_Keep_api_Keep W hW) (E_rule_Check_2 W hW)
theorem has_rule_Parse : Has Tryd.prog 17 83 (c_rule_Parse 29 30 31 23) r_rule_Parse := ⟨Tryd.f17, _, Tryd.func17, by decide, rfl, rfl, by kernel_rfl, by kernel_rfl⟩
theorem E_rule_Parse (W : World) (hW : WOK W) : CE_rule_Parse (envW Tryd.prog W) 17 := ev_rule_Parse (Γ := envW Tryd.prog W) has_rule_Parse (E_strings_Count W hW) (E_strings_Split W hW) (E_rule_read W hW) (E_rule_Check W hW)
theorem has_law17_awake : Has Tryd.prog 8 35 (c_law17_awake 17) r_law17_awake := ⟨Tryd.f8, _, Tryd.func8, by decide, rfl, rfl, by kernel_rfl, by kernel_rfl⟩
theorem E_law17_awake (W : World) (hW : WOK W) : CE_law17_awake (envW Tryd.prog W) 8 := ev_law17_awake (Γ := envW Tryd.prog W) has_law17_awake (E_rule_Parse W hW)
theorem has_make_Roll : Has Tryd.prog 9 6 c_make_Roll r_make_Roll := ⟨Tryd.f9, _, Tryd.func9, by decide, rfl, rfl, by kernel_rfl, by kernel_rfl⟩
theorem E_make_Roll (W : World) (hW : WOK W) : CE_make_Roll (envW Tryd.prog W) 9 := ev_make_Roll (Γ := envW Tryd.prog W) has_make_Roll
theorem has_make_Mod : Has Tryd.prog 11 14 c_make_Mod r_make_Mod := ⟨Tryd.f11, _, Tryd.func11, by decide, rfl, rfl, by kernel_rfl, by kernel_rfl⟩
theorem E_make_Mod (W : World) (hW : WOK W) : CE_make_Mod (envW Tryd.prog W) 11 := ev_make_Mod (Γ := envW Tryd.prog W) has_make_Mod
theorem has_make_Dice__Next : Has Tryd.prog 12 35 (c_make_Dice__Next 11) r_make_Dice__Next := ⟨Tryd.f12, _, Tryd.func12, by decide, rfl, rfl, by kernel_rfl, by kernel_rfl⟩
theorem E_make_Dice__Next (W : World) (hW : WOK W) : CE_make_Dice__Next (envW Tryd.prog W) 12 := ev_make_Dice__Next (Γ := envW Tryd.prog W) has_make_Dice__Next (E_make_Mod W hW)
theorem has_make_Dice__Word : Has Tryd.prog 19 12 (c_make_Dice__Word 12) r_make_Dice__Word := ⟨Tryd.f19, _, Tryd.func19, by decide, rfl, rfl, by kernel_rfl, by kernel_rfl⟩
theorem E_make_Dice__Word (W : World) (hW : WOK W) : CE_make_Dice__Word (envW Tryd.prog W) 19 := ev_make_Dice__Word (Γ := envW Tryd.prog W) has_make_Dice__Word (E_make_Dice__Next W hW)
theorem has_law17_text : Has Tryd.prog 10 52 (c_law17_text 12 19) r_law17_text := ⟨Tryd.f10, _, Tryd.func10, by decide, rfl, rfl, by kernel_rfl, by kernel_rfl⟩
theorem E_law17_text (W : World) (hW : WOK W) : CE_law17_text (envW Tryd.prog W) 10 := ev_law17_text (Γ := envW Tryd.prog W) has_law17_text (E_make_Dice__Next W hW) (E_make_Dice__Word W hW)
theorem has_make_Dice__Of : Has Tryd.prog 13 12 (c_make_Dice__Of 12) r_make_Dice__Of := ⟨Tryd.f13, _, Tryd.func13, by decide, rfl, rfl, by kernel_rfl, by kernel_rfl⟩
theorem E_make_Dice__Of (W : World) (hW : WOK W) : CE_make_Dice__Of (envW Tryd.prog W) 13 := ev_make_Dice__Of (Γ := envW Tryd.prog W) has_make_Dice__Of (E_make_Dice__Next W hW)
theorem has_ref06_Ends : Has Tryd.prog 34 18 c_ref06_Ends r_ref06_Ends := ⟨Tryd.f34, _, Tryd.func34, by decide, rfl, rfl, by kernel_rfl, by kernel_rfl⟩
theorem E_ref06_Ends (W : World) (hW : WOK W) : CE_ref06_Ends (envW Tryd.prog W) 34 := ev_ref06_Ends (Γ := envW Tryd.prog W) has_ref06_Ends
theorem has_ref06_Lines : Has Tryd.prog 35 36 c_ref06_Lines r_ref06_Lines := ⟨Tryd.f35, _, Tryd.func35, by decide, rfl, rfl, by kernel_rfl, by kernel_rfl⟩
theorem E_ref06_Lines (W : World) (hW : WOK W) : CE_ref06_Lines (envW Tryd.prog W) 35 := ev_ref06_Lines (Γ := envW Tryd.prog W) has_ref06_Lines
theorem has_ref17_words : Has Tryd.prog 36 32 c_ref17_words r_ref17_words := ⟨Tryd.f36, _, Tryd.func36, by decide, rfl, rfl, by kernel_rfl, by kernel_rfl⟩
theorem E_ref17_words (W : World) (hW : WOK W) : CE_ref17_words (envW Tryd.prog W) 36 := ev_ref17_words (Γ := envW Tryd.prog W) has_ref17_words
theorem has_ref02_rows : Has Tryd.prog 76 25 c_ref02_rows r_ref02_rows := ⟨Tryd.f76, _, Tryd.func76, by decide, rfl, rfl, by kernel_rfl, by kernel_rfl⟩
theorem E_ref02_rows (W : World) (hW : WOK W) : CE_ref02_rows (envW Tryd.prog W) 76 := ev_ref02_rows (Γ := envW Tryd.prog W) has_ref02_rows
theorem has_ref02_Find : Has Tryd.prog 60 16 (c_ref02_Find 76) r_ref02_Find := ⟨Tryd.f60, _, Tryd.func60, by decide, rfl, rfl, by kernel_rfl, by kernel_rfl⟩
theorem E_ref02_Find (W : World) (hW : WOK W) : CE_ref02_Find (envW Tryd.prog W) 60 := ev_ref02_Find (Γ := envW Tryd.prog W) has_ref02_Find (E_ref02_rows W hW)
theorem has_ref02_Number : Has Tryd.prog 40 49 c_ref02_Number r_ref02_Number := ⟨Tryd.f40, _, Tryd.func40, by decide, rfl, rfl, by kernel_rfl, by kernel_rfl⟩
theorem E_ref02_Number (W : World) (hW : WOK W) : CE_ref02_Number (envW Tryd.prog W) 40 := ev_ref02_Number (Γ := envW Tryd.prog W) has_ref02_Number
theorem has_ref17_purposes : Has Tryd.prog 61 2 c_ref17_purposes r_ref17_purposes := ⟨Tryd.f61, _, Tryd.func61, by decide, rfl, rfl, by kernel_rfl, by kernel_rfl⟩
theorem E_ref17_purposes (W : World) (hW : WOK W) : CE_ref17_purposes (envW Tryd.prog W) 61 := ev_ref17_purposes (Γ := envW Tryd.prog W) has_ref17_purposes
theorem has_ref17_Purpose : Has Tryd.prog 39 19 (c_ref17_Purpose 61) r_ref17_Purpose := ⟨Tryd.f39, _, Tryd.func39, by decide, rfl, rfl, by kernel_rfl, by kernel_rfl⟩
theorem E_ref17_Purpose (W : World) (hW : WOK W) : CE_ref17_Purpose (envW Tryd.prog W) 39 := ev_ref17_Purpose (Γ := envW Tryd.prog W) has_ref17_Purpose (E_ref17_purposes W hW)
theorem has_ref17_rule : Has Tryd.prog 37 102 (c_ref17_rule 60 40 39) r_ref17_rule := ⟨Tryd.f37, _, Tryd.func37, by decide, rfl, rfl, by kernel_rfl, by kernel_rfl⟩
theorem E_ref17_rule (W : World) (hW : WOK W) : CE_ref17_rule (envW Tryd.prog W) 37 := ev_ref17_rule (Γ := envW Tryd.prog W) has_ref17_rule (E_ref02_Find W hW) (E_ref02_Number W hW) (E_ref17_Purpose W hW)
theorem has_ref17_Ruled : Has Tryd.prog 38 48 c_ref17_Ruled r_ref17_Ruled := ⟨Tryd.f38, _, Tryd.func38, by decide, rfl, rfl, by kernel_rfl, by kernel_rfl⟩
theorem E_ref17_Ruled (W : World) (hW : WOK W) : CE_ref17_Ruled (envW Tryd.prog W) 38 := ev_ref17_Ruled (Γ := envW Tryd.prog W) has_ref17_Ruled
theorem has_ref17_kept : Has Tryd.prog 41 21 c_ref17_kept r_ref17_kept := ⟨Tryd.f41, _, Tryd.func41, by decide, rfl, rfl, by kernel_rfl, by kernel_rfl⟩
theorem E_ref17_kept (W : World) (hW : WOK W) : CE_ref17_kept (envW Tryd.prog W) 41 := ev_ref17_kept (Γ := envW Tryd.prog W) has_ref17_kept
theorem has_ref17_Check : Has Tryd.prog 42 43 (c_ref17_Check 38 41) r_ref17_Check := ⟨Tryd.f42, _, Tryd.func42, by decide, rfl, rfl, by kernel_rfl, by kernel_rfl⟩
theorem E_ref17_Check (W : World) (hW : WOK W) : CE_ref17_Check (envW Tryd.prog W) 42 := ev_ref17_Check (Γ := envW Tryd.prog W) has_ref17_Check (E_ref17_Ruled W hW) (E_ref17_kept W hW)
theorem has_ref17_Parse : Has Tryd.prog 20 141 (c_ref17_Parse 34 35 36 37 38 39 40 41 42) r_ref17_Parse := ⟨Tryd.f20, _, Tryd.func20, by decide, rfl, rfl, by kernel_rfl, by kernel_rfl⟩
theorem E_ref17_Parse (W : World) (hW : WOK W) : CE_ref17_Parse (envW Tryd.prog W) 20 := ev_ref17_Parse (Γ := envW Tryd.prog W) has_ref17_Parse (E_ref06_Ends W hW) (E_ref06_Lines W hW) (E_ref17_words W hW) (E_ref17_rule W hW) (E_ref17_Ruled W hW) (E_ref17_Purpose W hW) (E_ref02_Number W hW) (E_ref17_kept W hW) (E_ref17_Check W hW)
theorem has_ref17_Same : Has Tryd.prog 21 59 c_ref17_Same r_ref17_Same := ⟨Tryd.f21, _, Tryd.func21, by decide, rfl, rfl, by kernel_rfl, by kernel_rfl⟩
theorem E_ref17_Same (W : World) (hW : WOK W) : CE_ref17_Same (envW Tryd.prog W) 21 := ev_ref17_Same (Γ := envW Tryd.prog W) has_ref17_Same
theorem has_law17_agree : Has Tryd.prog 14 34 (c_law17_agree 17 20 21) r_law17_agree := ⟨Tryd.f14, _, Tryd.func14, by decide, rfl, rfl, by kernel_rfl, by kernel_rfl⟩
theorem E_law17_agree (W : World) (hW : WOK W) : CE_law17_agree (envW Tryd.prog W) 14 := ev_law17_agree (Γ := envW Tryd.prog W) has_law17_agree (E_rule_Parse W hW) (E_ref17_Parse W hW) (E_ref17_Same W hW)
theorem has_law17_RuleTexts : Has Tryd.prog 3 85 (c_law17_RuleTexts 7 8 9 10 11 12 13 14) r_law17_RuleTexts := ⟨Tryd.f3, _, Tryd.func3, by decide, rfl, rfl, by kernel_rfl, by kernel_rfl⟩
theorem E_law17_RuleTexts (W : World) (hW : WOK W) : CE_law17_RuleTexts (envW Tryd.prog W) 3 := ev_law17_RuleTexts (Γ := envW Tryd.prog W) has_law17_RuleTexts (E_make_Light W hW) (E_law17_awake W hW) (E_make_Roll W hW) (E_law17_text W hW) (E_make_Mod W hW) (E_make_Dice__Next W hW) (E_make_Dice__Of W hW) (E_law17_agree W hW)
theorem has_law17_RuleLong : Has Tryd.prog 4 47 (c_law17_RuleLong 14 8) r_law17_RuleLong := ⟨Tryd.f4, _, Tryd.func4, by decide, rfl, rfl, by kernel_rfl, by kernel_rfl⟩
theorem E_law17_RuleLong (W : World) (hW : WOK W) : CE_law17_RuleLong (envW Tryd.prog W) 4 := ev_law17_RuleLong (Γ := envW Tryd.prog W) has_law17_RuleLong (E_law17_agree W hW) (E_law17_awake W hW)
end Go.Proofs.YtmclfdgmbfdacaaDoor
end
