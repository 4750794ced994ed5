/- The ties of a seat: written by gvseat.py. -/
import Derived.Test.YtanmddhmkphilaaDoorGvZRun
import Derived.Test.YtanmddhmkphilaaDoorGvZBod
import Derived.Test.YtanmddhmkphilaaDoorProg
namespace Go.Gv
open Go.Proofs
set_option maxRecDepth 100000
noncomputable section
def cfgLg : Cfg := ⟨Tryd.prog, lkN [(83, 12), (67, 14), (104, 15), (121, 19), (77, 26), (68, 27), (98, 28), (94, 29), (73, 34), (38, 39), (69, 40), (81, 49), (91, 50), (52, 51), (114, 54), (72, 57), (42, 58), (80, 59), (103, 60), (111, 61), (110, 62), (129, 63), (95, 64), (78, 65), (102, 66), (120, 67), (132, 68), (133, 69), (134, 70), (135, 71), (112, 72), (99, 73), (101, 74), (100, 75), (119, 76), (137, 77), (136, 78), (139, 79), (140, 80), (115, 81), (116, 82), (117, 83), (118, 84), (138, 85), (142, 86), (124, 87), (125, 88), (130, 89), (66, 98), (45, 99), (29, 113), (4, 130), (12, 131), (14, 132), (15, 133), (16, 134), (17, 135), (19, 136), (18, 137), (13, 138), (5, 139), (30, 140), (31, 141), (33, 142), (34, 143), (32, 144), (35, 145), (37, 146), (36, 147), (40, 148), (39, 149), (41, 150), (43, 151), (44, 152), (46, 153), (65, 154), (70, 155), (71, 156), (74, 157), (75, 158), (76, 159), (79, 160), (97, 161), (96, 162), (113, 163)], has [83, 67, 104, 121, 77, 68, 98, 94, 73, 38, 69, 81, 91, 52, 114, 72, 42, 80, 103, 111, 110, 129, 95, 78, 102, 120, 132, 133, 134, 135, 112, 99, 101, 100, 119, 137, 136, 139, 140, 115, 116, 117, 118, 138, 142, 124, 125, 130, 66, 45, 29, 4, 12, 14, 15, 16, 17, 19, 18, 13, 5, 30, 31, 33, 34, 32, 35, 37, 36, 40, 39, 41, 43, 44, 46, 65, 70, 71, 74, 75, 76, 79, 97, 96, 113], tyN [(9, 0)], lkN [(2, 4), (3, 5), (4, 1), (6, 2)], has [2, 3, 4, 6], lkE [(37, [.int .i64, .int .i64, .int .i64]), (71, [.int .i64, .int .i64, .int .i64, .int .i64])]⟩
theorem t_ref04_Runes : bodyM cfgLg ⟨[], (.n .z (.n .z (.n (.j [(3, .v (.b (.slice 1)))] (.j [(0, .v (.b (.str))), (3, .v (.b (.slice 1)))] .z .z) .z) .z))), true⟩ Tryd.f83 = b_ref04_Runes := by kernel_rfl
theorem t_ref04_First : bodyM cfgLg ⟨[], (.n .z (.n .z (.n .z (.n (.n (.n .z (.n .z (.n .z (.n .z (.n .z (.j [] (.n (.n .z (.j [(5, .v (.b (.int .u8)))] .z .z)) (.n (.n .z (.j [(6, .v (.b (.int .u8)))] .z .z)) .z)) (.n .z (.j [] (.n (.n .z (.j [(5, .v (.b (.int .u8)))] .z .z)) (.n (.n .z (.j [(6, .v (.b (.int .u8)))] .z .z)) .z)) .z)))))))) .z) .z)))), false⟩ Tryd.f104 = b_ref04_First := by kernel_rfl
theorem t_ref04_follows : bodyM cfgLg ⟨[], .z, false⟩ Tryd.f121 = b_ref04_follows := by kernel_rfl
theorem t_name_Right : bodyM cfgLg ⟨[], (.n .z (.n .z (.n (.n .z (.j [(3, .v (.b (.int .i64)))] (.j [(3, .v (.b (.int .i64))), (7, .t)] .z .z) .z)) .z))), false⟩ Tryd.f77 = b_name_Right := by kernel_rfl
theorem t_ref04_Right : bodyM cfgLg ⟨[], (.n .z (.n .z (.n .z (.n (.n .z (.j [(4, .v (.b (.bool)))] (.j [(4, .v (.b (.bool))), (5, .v (.b (.int .i64)))] .z .z) .z)) .z)))), false⟩ Tryd.f68 = b_ref04_Right := by kernel_rfl
theorem t_name_Of : bodyM cfgLg ⟨[4], (.n .z (.n (.n .z (.j [] (.j [(6, .v (.b (.int .i64)))] .z .z) .z)) .z)), false⟩ Tryd.f98 = b_name_Of := by kernel_rfl
theorem t_ref04_Of : bodyM cfgLg ⟨[], .z, false⟩ Tryd.f94 = b_ref04_Of := by kernel_rfl
theorem t_name_Runes : bodyM cfgLg ⟨[], (.n .z (.n .z (.n (.n .z (.j [(3, .v (.b (.slice 1)))] (.j [(3, .v (.b (.slice 1))), (7, .t)] .z .z) .z)) .z))), true⟩ Tryd.f73 = b_name_Runes := by kernel_rfl
theorem t_name_Compare : bodyM cfgLg ⟨[], .z, false⟩ Tryd.f38 = b_name_Compare := by kernel_rfl
theorem t_ref04_Compare : bodyM cfgLg ⟨[], (.n .z (.n .z (.n (.n .z (.j [] (.j [(7, .v (.b (.int .i64)))] .z .z) .z)) .z))), false⟩ Tryd.f69 = b_ref04_Compare := by kernel_rfl
theorem t_digit_Show : bodyM cfgLg ⟨[], .z, false⟩ Tryd.f81 = b_digit_Show := by kernel_rfl
theorem t_digit_Read : bodyM cfgLg ⟨[], (.n .z (.n .z (.n (.n .z (.j [] (.j [(8, .t)] .z .z) .z)) .z))), false⟩ Tryd.f91 = b_digit_Read := by kernel_rfl
theorem t_ref03_Show : bodyM cfgLg ⟨[], (.n .z (.n .z (.n .z (.n (.n .z (.j [(3, .v (.b (.str)))] (.j [(3, .v (.b (.str))), (4, .v (.b (.int .i64)))] (.n .z (.n (.n (.n .z (.n (.n .z (.j [(5, .v (.b (.int .i64)))] .z .z)) .z)) .z) .z)) .z) .z)) .z)))), false⟩ Tryd.f52 = b_ref03_Show := by kernel_rfl
theorem t_name_spans : bodyM cfgLg ⟨[0], .z, false⟩ Tryd.f114 = b_name_spans := by kernel_rfl
theorem t_slices_Compare_rune_rune : bodyM cfgLg ⟨[], (.n .z (.n (.n .z (.j [] (.j [(11, .v (.b (.int .i64)))] .z .z) .z)) .z)), false⟩ Tryd.f72 = b_slices_Compare_rune_rune := by kernel_rfl
theorem t_strings_Split : bodyM cfgLg ⟨[], .z, true⟩ Tryd.f42 = b_strings_Split := by kernel_rfl
theorem t_digit_ReadHandle : bodyM cfgLg ⟨[2], .z, false⟩ Tryd.f80 = b_digit_ReadHandle := by kernel_rfl
theorem t_strconv_Itoa : bodyM cfgLg ⟨[], .z, false⟩ Tryd.f103 = b_strconv_Itoa := by kernel_rfl
theorem t_digit_reader_number : bodyM cfgLg ⟨[], (.n .z (.n (.n (.n (.n .z (.j [(4, .v (.b (.bool)))] .z (.n .z (.j [(4, .v (.b (.bool)))] .z .z)))) .z) .z) .z)), false⟩ Tryd.f111 = b_digit_reader_number := by kernel_rfl
theorem t_digit_reader_takes : bodyM cfgLg ⟨[], .z, false⟩ Tryd.f110 = b_digit_reader_takes := by kernel_rfl
theorem t_strconv_FormatInt_ : bodyM cfgLg ⟨[], (.n .z (.n (.n .z (.n (.n .z (.n .z (.n .z (.n (.n .z (.j [(6, .v (.b (.int .u64)))] .z .z)) .z)))) .z)) .z)), false⟩ Tryd.f129 = b_strconv_FormatInt_ := by kernel_rfl
theorem t_cmp_Compare_rune : bodyM cfgLg ⟨[], .z, false⟩ Tryd.f95 = b_cmp_Compare_rune := by kernel_rfl
theorem t_strings_genSplit : bodyM cfgLg ⟨[], (.n .z (.n .z (.n .z (.n (.n .z (.j [(3, .v (.b (.int .i64)))] .z .z)) (.n .z (.n .z (.n .z (.n .z (.n (.j [(0, .v (.b (.str))), (10, .v (.b (.int .i64)))] (.j [(0, .v (.b (.str))), (10, .v (.b (.int .i64)))] .z .z) .z) .z))))))))), true⟩ Tryd.f78 = b_strings_genSplit := by kernel_rfl
theorem t_strings_Cut : bodyM cfgLg ⟨[], .z, false⟩ Tryd.f102 = b_strings_Cut := by kernel_rfl
theorem t_strconv_Itoa_ : bodyM cfgLg ⟨[], .z, false⟩ Tryd.f120 = b_strconv_Itoa_ := by kernel_rfl
theorem t_strconv_small : bodyM cfgLg ⟨[], .z, false⟩ Tryd.f132 = b_strconv_small := by kernel_rfl
theorem t_strconv_numDigits : bodyM cfgLg ⟨[], .z, false⟩ Tryd.f133 = b_strconv_numDigits := by kernel_rfl
theorem t_strconv_formatBase10 : bodyM cfgLg ⟨[], (.n .z (.n (.j [(1, .v (.b (.int .u64))), (4, .v (.b (.int .i64)))] (.j [(1, .v (.b (.int .u64))), (4, .v (.b (.int .i64)))] .z .z) .z) (.n .z (.n (.n .z (.j [(4, .v (.b (.int .i64))), (12, .v (.b (.int .u32)))] .z .z)) (.n (.n .z (.j [(4, .v (.b (.int .i64))), (12, .v (.b (.int .u32)))] .z .z)) (.n .z (.j [] .z .z))))))), false⟩ Tryd.f134 = b_strconv_formatBase10 := by kernel_rfl
theorem t_strconv_formatBits : bodyM cfgLg ⟨[], (.n .z (.n (.n .z (.j [] .z .z)) (.n .z (.n .z (.n (.n .z (.j [(1, .v (.b (.int .u64)))] .z .z)) (.n (.n .z (.j [(13, .v (.b (.int .i64)))] (.n .z (.n .z (.n .z (.n (.j [(1, .v (.b (.int .u64))), (13, .v (.b (.int .i64)))] (.j [(1, .v (.b (.int .u64))), (13, .v (.b (.int .i64)))] .z .z) .z) .z)))) (.n .z (.n (.j [(1, .v (.b (.int .u64))), (13, .v (.b (.int .i64)))] (.j [(1, .v (.b (.int .u64))), (13, .v (.b (.int .i64)))] .z .z) .z) .z)))) (.n (.n .z (.j [(13, .v (.b (.int .i64)))] .z .z)) .z))))))), true⟩ Tryd.f135 = b_strconv_formatBits := by kernel_rfl
theorem t_cmp_isNaN_rune : bodyM cfgLg ⟨[], .z, false⟩ Tryd.f112 = b_cmp_isNaN_rune := by kernel_rfl
theorem t_strings_explode : bodyM cfgLg ⟨[], (.n .z (.n .z (.n (.n .z (.j [(1, .v (.b (.int .i64)))] .z .z)) (.n .z (.n (.n .z (.j [(0, .v (.b (.str)))] (.j [(0, .v (.b (.str))), (7, .v (.b (.int .i64)))] .z .z) .z)) (.n (.n .z (.j [] .z .z)) .z)))))), true⟩ Tryd.f99 = b_strings_explode := by kernel_rfl
theorem t_strings_Index : bodyM cfgLg ⟨[], .z, false⟩ Tryd.f101 = b_strings_Index := by kernel_rfl
theorem t_strings_Count : bodyM cfgLg ⟨[], (.n .z (.n .z (.n .z (.n .z (.n (.j [(0, .v (.b (.str))), (5, .v (.b (.int .i64)))] .z .z) .z))))), false⟩ Tryd.f100 = b_strings_Count := by kernel_rfl
theorem t_stringslite_Cut : bodyM cfgLg ⟨[], .z, false⟩ Tryd.f119 = b_stringslite_Cut := by kernel_rfl
theorem t_bits_Len64 : bodyM cfgLg ⟨[], (.n .z (.n (.n .z (.j [(0, .v (.b (.int .u64))), (2, .v (.b (.int .i64)))] .z .z)) (.n (.n .z (.j [(0, .v (.b (.int .u64))), (2, .v (.b (.int .i64)))] .z .z)) (.n (.n .z (.j [(0, .v (.b (.int .u64))), (2, .v (.b (.int .i64)))] .z .z)) .z)))), false⟩ Tryd.f137 = b_bits_Len64 := by kernel_rfl
theorem t_strconv_log10Pow2 : bodyM cfgLg ⟨[], .z, false⟩ Tryd.f136 = b_strconv_log10Pow2 := by kernel_rfl
theorem t_strconv_isPowerOfTwo : bodyM cfgLg ⟨[], .z, false⟩ Tryd.f139 = b_strconv_isPowerOfTwo := by kernel_rfl
theorem t_bits_TrailingZeros : bodyM cfgLg ⟨[], .z, false⟩ Tryd.f140 = b_bits_TrailingZeros := by kernel_rfl
theorem t_utf8_RuneCountInString : bodyM cfgLg ⟨[], (.n .z (.n (.n .z (.j [(2, .v (.b (.int .i64)))] (.j [(2, .v (.b (.int .i64))), (4, .t)] .z .z) .z)) .z)), false⟩ Tryd.f115 = b_utf8_RuneCountInString := by kernel_rfl
theorem t_utf8_DecodeRuneInString : bodyM cfgLg ⟨[], .z, false⟩ Tryd.f116 = b_utf8_DecodeRuneInString := by kernel_rfl
theorem t_stringslite_Index : bodyM cfgLg ⟨[], (.n .z (.n .z (.n .z (.n .z (.n .z (.n .z (.n .z (.n .z (.n (.j [] (.j [(8, .v (.b (.int .i64))), (10, .v (.b (.int .i64)))] (.n .z (.n (.n (.n .z (.j [(8, .v (.b (.int .i64)))] .z .z)) .z) .z)) .z) .z) .z))))))))), false⟩ Tryd.f118 = b_stringslite_Index := by kernel_rfl
theorem t_internal_strconv_bool2_int : bodyM cfgLg ⟨[], .z, false⟩ Tryd.f138 = b_internal_strconv_bool2_int := by kernel_rfl
def bLg_bits_TrailingZeros64 : Body := bodyM cfgLg ⟨[], .z, false⟩ Tryd.f142
theorem t_bits_TrailingZeros64 : bodyM cfgLg ⟨[], .z, false⟩ Tryd.f142 = bLg_bits_TrailingZeros64 := rfl
theorem t_utf8_decodeRuneInStringSlow : bodyM cfgLg ⟨[9], .z, false⟩ Tryd.f124 = b_utf8_decodeRuneInStringSlow := by kernel_rfl
theorem t_stringslite_IndexByte : bodyM cfgLg ⟨[], .z, false⟩ Tryd.f125 = b_stringslite_IndexByte := by kernel_rfl
theorem t_digit_ShowHandle : bodyM cfgLg ⟨[1], .z, false⟩ Tryd.f66 = b_digit_ShowHandle := by kernel_rfl
theorem t_ref03_Handle : bodyM cfgLg ⟨[1], .z, false⟩ Tryd.f45 = b_ref03_Handle := by kernel_rfl
theorem t_ref01_Ints : bodyM cfgLg ⟨[], (.n .z (.n .z (.n (.n .z (.j [] (.j [(5, .v (.b (.int .i64)))] .z .z) .z)) .z))), false⟩ Tryd.f29 = b_ref01_Ints := by kernel_rfl
theorem t_law33_LedgerPrints : bodyM cfgLg ⟨[1, 5], .z, false⟩ Tryd.f4 = b_law33_LedgerPrints := by kernel_rfl
theorem t_law33_awake : bodyM cfgLg ⟨[1, 4], .z, false⟩ Tryd.f12 = b_law33_awake := by kernel_rfl
theorem t_ledger_Print : bodyM cfgLg ⟨[1], .z, false⟩ Tryd.f14 = b_ledger_Print := by kernel_rfl
theorem t_ref26_May : bodyM cfgLg ⟨[1, 7], (.n .z (.n .z (.n .z (.n .z (.n .z (.n .z (.n (.n .z (.j [] (.j [(6, .v (.b (.int .i64)))] .z .z) .z)) (.n (.n .z (.j [] (.j [(8, .v (.b (.int .i64)))] .z .z) .z)) (.n (.n .z (.j [] (.j [(10, .v (.b (.int .i64)))] .z .z) .z)) .z))))))))), false⟩ Tryd.f15 = b_ref26_May := by kernel_rfl
theorem t_ledger_May : bodyM cfgLg ⟨[], (.n .z (.n .z (.n .z (.n (.n .z (.j [] (.j [(3, .v (.b (.int .i64)))] .z .z) .z)) .z)))), false⟩ Tryd.f16 = b_ledger_May := by kernel_rfl
theorem t_ledger_Read : bodyM cfgLg ⟨[2], (.n .z (.n .z (.n (.n .z (.j [] (.j [(12, .v (.b (.int .i64)))] .z .z) .z)) .z))), true⟩ Tryd.f17 = b_ledger_Read := by kernel_rfl
theorem t_ref26_Same : bodyM cfgLg ⟨[2, 3], (.n .z (.n .z (.n (.n .z (.j [] (.j [(5, .v (.b (.int .i64)))] .z .z) .z)) .z))), false⟩ Tryd.f19 = b_ref26_Same := by kernel_rfl
theorem t_ref33_Print : bodyM cfgLg ⟨[1], (.n .z (.n .z (.n (.n .z (.j [(3, .v (.b (.str)))] (.j [(3, .v (.b (.str))), (4, .v (.b (.int .i64)))] (.n .z (.n (.j [(3, .v (.b (.str)))] (.n .z (.n .z (.n .z (.j [(3, .v (.b (.str)))] (.j [(3, .v (.b (.str))), (6, .v (.b (.int .i64)))] .z .z) .z)))) .z) .z)) .z) .z)) .z))), false⟩ Tryd.f18 = b_ref33_Print := by kernel_rfl
theorem t_law26_Small : bodyM cfgLg ⟨[1], (.n .z (.n .z (.n (.n .z (.j [] (.j [(3, .v (.b (.int .i64)))] .z .z) .z)) .z))), false⟩ Tryd.f13 = b_law26_Small := by kernel_rfl
theorem t_law33_LedgerApart : bodyM cfgLg ⟨[2, 3], .z, false⟩ Tryd.f5 = b_law33_LedgerApart := by kernel_rfl
theorem t_ledger_text : bodyM cfgLg ⟨[1, 5, 7], (.n .z (.n .z (.n (.n .z (.j [(3, .v (.b (.slice 1)))] (.j [(3, .v (.b (.slice 1))), (29, .v (.b (.int .i64)))] (.n .z (.n .z (.n (.j [(3, .v (.b (.slice 1)))] (.n .z (.n .z (.n .z (.j [(3, .v (.b (.slice 1)))] (.j [(3, .v (.b (.slice 1))), (43, .v (.b (.int .i64)))] .z .z) .z)))) .z) .z))) .z) .z)) .z))), false⟩ Tryd.f30 = b_ledger_text := by kernel_rfl
theorem t_ref12_Right : bodyM cfgLg ⟨[1], .z, false⟩ Tryd.f31 = b_ref12_Right := by kernel_rfl
theorem t_ref26_Entries : bodyM cfgLg ⟨[1], (.n .z (.n .z (.n (.n .z (.j [(3, .v (.b (.slice 4)))] (.j [(3, .v (.b (.slice 4))), (4, .v (.b (.int .i64)))] .z .z) .z)) .z))), true⟩ Tryd.f33 = b_ref26_Entries := by kernel_rfl
theorem t_ref10_Has : bodyM cfgLg ⟨[], (.n .z (.n (.n .z (.j [] (.j [(5, .v (.b (.int .i64)))] .z .z) .z)) .z)), false⟩ Tryd.f34 = b_ref10_Has := by kernel_rfl
theorem t_ref26_heaps : bodyM cfgLg ⟨[], (.n .z (.n .z (.n (.n .z (.j [] (.j [(3, .v (.b (.int .i64)))] (.n .z (.n (.j [] (.n .z (.n .z (.j [] (.j [(4, .v (.b (.int .i64)))] .z .z) .z))) .z) .z)) .z) .z)) .z))), false⟩ Tryd.f32 = b_ref26_heaps := by kernel_rfl
theorem t_geom_Right : bodyM cfgLg ⟨[1], .z, false⟩ Tryd.f35 = b_geom_Right := by kernel_rfl
theorem t_ledger_May_1 : bodyM cfgLg ⟨[], .z, false⟩ Tryd.f37 = b_ledger_May_1 := by kernel_rfl
theorem t_slices_ContainsFunc_int_int : bodyM cfgLg ⟨[], .z, false⟩ Tryd.f36 = b_slices_ContainsFunc_int_int := by kernel_rfl
theorem t_ledger_book_wrong : bodyM cfgLg ⟨[3, 6], (.n .z (.n (.n .z (.j [] (.j [(10, .v (.b (.int .i64)))] .z .z) .z)) .z)), false⟩ Tryd.f40 = b_ledger_book_wrong := by kernel_rfl
theorem t_slices_ContainsFunc_api_Heap_api_Heap : bodyM cfgLg ⟨[], .z, false⟩ Tryd.f39 = b_slices_ContainsFunc_api_Heap_api_Heap := by kernel_rfl
theorem t_ledger_book_free : bodyM cfgLg ⟨[], (.n .z (.n (.n .z (.j [] (.j [(13, .v (.b (.int .i64)))] .z .z) .z)) (.n (.n .z (.j [] (.j [(44, .v (.b (.int .i64)))] .z .z) .z)) .z))), false⟩ Tryd.f41 = b_ledger_book_free := by kernel_rfl
theorem t_ledger_reader_take : bodyM cfgLg ⟨[6, 8], (.n .z (.n .z (.n (.n .z (.j [] (.n .z (.j [] .z .z)) (.n .z (.j [] .z (.n .z (.j [] .z (.n .z (.j [] .z (.n .z (.j [] (.n .z (.n .z (.j [] .z .z))) .z)))))))))) .z))), false⟩ Tryd.f43 = b_ledger_reader_take := by kernel_rfl
theorem t_ref33_words : bodyM cfgLg ⟨[], (.n .z (.n (.n .z (.j [(0, .v (.b (.str)))] (.j [(0, .v (.b (.str))), (5, .v (.b (.int .i64)))] .z .z) .z)) .z)), false⟩ Tryd.f44 = b_ref33_words := by kernel_rfl
theorem t_ref08_Entries : bodyM cfgLg ⟨[], (.n .z (.n .z (.n (.n .z (.j [] (.j [(5, .v (.b (.int .i64)))] .z .z) .z)) .z))), false⟩ Tryd.f46 = b_ref08_Entries := by kernel_rfl
theorem t_ledger_line : bodyM cfgLg ⟨[], (.n .z (.n (.n .z (.j [(0, .v (.b (.str)))] (.j [(0, .v (.b (.str))), (9, .v (.b (.int .i64)))] .z .z) .z)) .z)), false⟩ Tryd.f65 = b_ledger_line := by kernel_rfl
theorem t_ref08_Ahead : bodyM cfgLg ⟨[2, 3], .z, false⟩ Tryd.f70 = b_ref08_Ahead := by kernel_rfl
theorem t_slices_IndexFunc_int_int : bodyM cfgLg ⟨[], (.n .z (.n (.n .z (.j [] (.j [(8, .v (.b (.int .i64)))] .z .z) .z)) .z)), false⟩ Tryd.f71 = b_slices_IndexFunc_int_int := by kernel_rfl
theorem t_slices_IndexFunc_api_Heap_api_Heap : bodyM cfgLg ⟨[], (.n .z (.n (.n .z (.j [] (.j [(8, .v (.b (.int .i64)))] .z .z) .z)) .z)), false⟩ Tryd.f74 = b_slices_IndexFunc_api_Heap_api_Heap := by kernel_rfl
theorem t_ledger_book_take : bodyM cfgLg ⟨[], .z, false⟩ Tryd.f75 = b_ledger_book_take := by kernel_rfl
theorem t_node_Compare : bodyM cfgLg ⟨[2, 3], .z, false⟩ Tryd.f76 = b_node_Compare := by kernel_rfl
theorem t_ledger_numbers : bodyM cfgLg ⟨[], (.n .z (.n .z (.n (.n .z (.j [(3, .v (.b (.slice 1)))] (.j [(3, .v (.b (.slice 1))), (10, .v (.b (.int .i64)))] (.n .z (.n .z (.n (.n (.n .z (.n .z (.n .z (.j [(3, .v (.b (.slice 1)))] .z .z)))) .z) .z))) .z) .z)) .z))), true⟩ Tryd.f79 = b_ledger_numbers := by kernel_rfl
theorem t_cmp_Compare_int : bodyM cfgLg ⟨[], .z, false⟩ Tryd.f97 = b_cmp_Compare_int := by kernel_rfl
theorem t_cmp_Or_int : bodyM cfgLg ⟨[], (.n .z (.n .z (.n (.n .z (.j [] (.j [(8, .v (.b (.int .i64)))] .z .z) .z)) .z))), false⟩ Tryd.f96 = b_cmp_Or_int := by kernel_rfl
theorem t_cmp_isNaN_int : bodyM cfgLg ⟨[], .z, false⟩ Tryd.f113 = b_cmp_isNaN_int := by kernel_rfl
end
noncomputable def ren_n156_Lg : Go.Shelf.Ren := ⟨fun | 156 => 67 | 165 => 87 | 166 => 88 | 169 => 90 | 240 => 108 | 241 => 109 | 276 => 122 | 277 => 123 | n => n, fun | 0 => 0 | 3 => 3 | 4 => 4 | 5 => 5 | 9 => 9 | 20 => 20 | 31 => 54 | 37 => 124 | 70 => 130 | 71 => 131 | 72 => 132 | 74 => 134 | 75 => 135 | 76 => 136 | 80 => 139 | 127 => 155 | 164 => 168 | n => n, fun | n => n⟩
theorem lays_n156_Lg : Lays.n156 Tryd.prog ren_n156_Lg where
  mixed := by kernel_rfl
  f156 := Tryd.func67.trans (congrArg some (by kernel_rfl))
  f165 := Tryd.func87.trans (congrArg some (by kernel_rfl))
  f166 := Tryd.func88.trans (congrArg some (by kernel_rfl))
  f169 := Tryd.func90.trans (congrArg some (by kernel_rfl))
  f240 := Tryd.func108.trans (congrArg some (by kernel_rfl))
  f241 := Tryd.func109.trans (congrArg some (by kernel_rfl))
  f276 := Tryd.func122.trans (congrArg some (by kernel_rfl))
  f277 := Tryd.func123.trans (congrArg some (by kernel_rfl))
  t0 := Tryd.underlying0
  a0 := Tryd.isAgg0
  z0 := Tryd.sizeOf0
  v0 := Tryd.zeroValue0
  t3 := Tryd.underlying3
  a3 := Tryd.isAgg3
  z3 := Tryd.sizeOf3
  v3 := Tryd.zeroValue3
  t4 := Tryd.underlying4
  a4 := Tryd.isAgg4
  z4 := Tryd.sizeOf4
  v4 := Tryd.zeroValue4
  t9 := Tryd.underlying9
  a9 := Tryd.isAgg9
  z9 := Tryd.sizeOf9
  v9 := Tryd.zeroValue9
  t20 := Tryd.underlying20
  a20 := Tryd.isAgg20
  z20 := Tryd.sizeOf20
  v20 := Tryd.zeroValue20
  t31 := Tryd.underlying54
  a31 := Tryd.isAgg54
  z31 := Tryd.sizeOf54
  v31 := Tryd.zeroValue54
  t37 := Tryd.underlying124
  a37 := Tryd.isAgg124
  z37 := Tryd.sizeOf124
  v37 := Tryd.zeroValue124
  t70 := Tryd.underlying130
  a70 := Tryd.isAgg130
  z70 := Tryd.sizeOf130
  v70 := Tryd.zeroValue130
  t72 := Tryd.underlying132
  a72 := Tryd.isAgg132
  z72 := Tryd.sizeOf132
  v72 := Tryd.zeroValue132
  t75 := Tryd.underlying135
  a75 := Tryd.isAgg135
  z75 := Tryd.sizeOf135
  v75 := Tryd.zeroValue135
  t76 := Tryd.underlying136
  a76 := Tryd.isAgg136
  z76 := Tryd.sizeOf136
  v76 := Tryd.zeroValue136
  t127 := Tryd.underlying155
  a127 := Tryd.isAgg155
  z127 := Tryd.sizeOf155
  v127 := Tryd.zeroValue155
  t164 := Tryd.underlying168
  a164 := Tryd.isAgg168
  z164 := Tryd.sizeOf168
  v164 := Tryd.zeroValue168
theorem extra_n156_Lg : Builder.Extra Tryd.prog ren_n156_Lg where
  sizeBuilder := by kernel_rfl
  liesBuilder := by kernel_rfl
  t5 := Tryd.underlying5
  a5 := Tryd.isAgg5
  z5 := Tryd.sizeOf5
  v5 := Tryd.zeroValue5
  infoByte := by kernel_rfl
  cellsByte := by kernel_rfl
  sizeByte := by kernel_rfl
  neB5 := by decide
theorem cfgOkLg : CfgOk cfgLg := ⟨tyN_inj (by kernel_rfl), (fun t h => eqTy_guard (lkE_ok (by kernel_rfl) t h)), (fun t h _ _ _ _ _ _ w hx hy he => eqTy_run (lkE_ok (by kernel_rfl) t h) w hx hy he), tae_of (e := 192) (by kernel_rfl) (by kernel_rfl)⟩
theorem funOkLg : FunOk cfgLg := ⟨cfgOkLg, by kernel_rfl⟩
noncomputable def bdsLg : List (Nat × Body) := [(12, b_ref04_Runes), (14, lib_Join), (15, b_ref04_First), (19, b_ref04_follows), (26, b_name_Right), (27, b_ref04_Right), (28, b_name_Of), (29, b_ref04_Of), (34, b_name_Runes), (39, b_name_Compare), (40, b_ref04_Compare), (49, b_digit_Show), (50, b_digit_Read), (51, b_ref03_Show), (54, b_name_spans), (57, b_slices_Compare_rune_rune), (58, b_strings_Split), (59, b_digit_ReadHandle), (60, b_strconv_Itoa), (61, b_digit_reader_number), (62, b_digit_reader_takes), (63, b_strconv_FormatInt_), (64, b_cmp_Compare_rune), (65, b_strings_genSplit), (66, b_strings_Cut), (67, b_strconv_Itoa_), (68, b_strconv_small), (69, b_strconv_numDigits), (70, b_strconv_formatBase10), (71, b_strconv_formatBits), (72, b_cmp_isNaN_rune), (73, b_strings_explode), (74, b_strings_Index), (75, b_strings_Count), (76, b_stringslite_Cut), (77, b_bits_Len64), (78, b_strconv_log10Pow2), (79, b_strconv_isPowerOfTwo), (80, b_bits_TrailingZeros), (81, b_utf8_RuneCountInString), (82, b_utf8_DecodeRuneInString), (83, nat_CountString), (84, b_stringslite_Index), (85, b_internal_strconv_bool2_int), (86, bLg_bits_TrailingZeros64), (87, b_utf8_decodeRuneInStringSlow), (88, b_stringslite_IndexByte), (89, nat_IndexByteString), (98, b_digit_ShowHandle), (99, b_ref03_Handle), (113, b_ref01_Ints), (130, b_law33_LedgerPrints), (131, b_law33_awake), (132, b_ledger_Print), (133, b_ref26_May), (134, b_ledger_May), (135, b_ledger_Read), (136, b_ref26_Same), (137, b_ref33_Print), (138, b_law26_Small), (139, b_law33_LedgerApart), (140, b_ledger_text), (141, b_ref12_Right), (142, b_ref26_Entries), (143, b_ref10_Has), (144, b_ref26_heaps), (145, b_geom_Right), (146, b_ledger_May_1), (147, b_slices_ContainsFunc_int_int), (148, b_ledger_book_wrong), (149, b_slices_ContainsFunc_api_Heap_api_Heap), (150, b_ledger_book_free), (151, b_ledger_reader_take), (152, b_ref33_words), (153, b_ref08_Entries), (154, b_ledger_line), (155, b_ref08_Ahead), (156, b_slices_IndexFunc_int_int), (157, b_slices_IndexFunc_api_Heap_api_Heap), (158, b_ledger_book_take), (159, b_node_Compare), (160, b_ledger_numbers), (161, b_cmp_Compare_int), (162, b_cmp_Or_int), (163, b_cmp_isNaN_int)]
theorem bodiesLg : ∀ n, OracleOK cfgLg (run (bdOf bdsLg) n) :=
  seat_ok (cov := [83, 67, 104, 121, 77, 68, 98, 94, 73, 38, 69, 81, 91, 52, 114, 72, 42, 80, 103, 111, 110, 129, 95, 78, 102, 120, 132, 133, 134, 135, 112, 99, 101, 100, 119, 137, 136, 139, 140, 115, 116, 117, 118, 138, 142, 124, 125, 130, 66, 45, 29, 4, 12, 14, 15, 16, 17, 19, 18, 13, 5, 30, 31, 33, 34, 32, 35, 37, 36, 40, 39, 41, 43, 44, 46, 65, 70, 71, 74, 75, 76, 79, 97, 96, 113]) rfl (by kernel_rfl) (List.forall_mem_cons.2 ⟨BodyOK.of_tie funOkLg Tryd.func83 (by kernel_rfl) t_ref04_Runes, List.forall_mem_cons.2 ⟨lib_Join_ok lays_n156_Lg extra_n156_Lg rfl Tryd.func67 (by kernel_rfl) (by kernel_rfl), List.forall_mem_cons.2 ⟨BodyOK.of_tie funOkLg Tryd.func104 (by kernel_rfl) t_ref04_First, List.forall_mem_cons.2 ⟨BodyOK.of_tie funOkLg Tryd.func121 (by kernel_rfl) t_ref04_follows, List.forall_mem_cons.2 ⟨BodyOK.of_tie funOkLg Tryd.func77 (by kernel_rfl) t_name_Right, List.forall_mem_cons.2 ⟨BodyOK.of_tie funOkLg Tryd.func68 (by kernel_rfl) t_ref04_Right, List.forall_mem_cons.2 ⟨BodyOK.of_tie funOkLg Tryd.func98 (by kernel_rfl) t_name_Of, List.forall_mem_cons.2 ⟨BodyOK.of_tie funOkLg Tryd.func94 (by kernel_rfl) t_ref04_Of, List.forall_mem_cons.2 ⟨BodyOK.of_tie funOkLg Tryd.func73 (by kernel_rfl) t_name_Runes, List.forall_mem_cons.2 ⟨BodyOK.of_tie funOkLg Tryd.func38 (by kernel_rfl) t_name_Compare, List.forall_mem_cons.2 ⟨BodyOK.of_tie funOkLg Tryd.func69 (by kernel_rfl) t_ref04_Compare, List.forall_mem_cons.2 ⟨BodyOK.of_tie funOkLg Tryd.func81 (by kernel_rfl) t_digit_Show, List.forall_mem_cons.2 ⟨BodyOK.of_tie funOkLg Tryd.func91 (by kernel_rfl) t_digit_Read, List.forall_mem_cons.2 ⟨BodyOK.of_tie funOkLg Tryd.func52 (by kernel_rfl) t_ref03_Show, List.forall_mem_cons.2 ⟨BodyOK.of_tie funOkLg Tryd.func114 (by kernel_rfl) t_name_spans, List.forall_mem_cons.2 ⟨BodyOK.of_tie funOkLg Tryd.func72 (by kernel_rfl) t_slices_Compare_rune_rune, List.forall_mem_cons.2 ⟨BodyOK.of_tie funOkLg Tryd.func42 (by kernel_rfl) t_strings_Split, List.forall_mem_cons.2 ⟨BodyOK.of_tie funOkLg Tryd.func80 (by kernel_rfl) t_digit_ReadHandle, List.forall_mem_cons.2 ⟨BodyOK.of_tie funOkLg Tryd.func103 (by kernel_rfl) t_strconv_Itoa, List.forall_mem_cons.2 ⟨BodyOK.of_tie funOkLg Tryd.func111 (by kernel_rfl) t_digit_reader_number, List.forall_mem_cons.2 ⟨BodyOK.of_tie funOkLg Tryd.func110 (by kernel_rfl) t_digit_reader_takes, List.forall_mem_cons.2 ⟨BodyOK.of_tie funOkLg Tryd.func129 (by kernel_rfl) t_strconv_FormatInt_, List.forall_mem_cons.2 ⟨BodyOK.of_tie funOkLg Tryd.func95 (by kernel_rfl) t_cmp_Compare_rune, List.forall_mem_cons.2 ⟨BodyOK.of_tie funOkLg Tryd.func78 (by kernel_rfl) t_strings_genSplit, List.forall_mem_cons.2 ⟨BodyOK.of_tie funOkLg Tryd.func102 (by kernel_rfl) t_strings_Cut, List.forall_mem_cons.2 ⟨BodyOK.of_tie funOkLg Tryd.func120 (by kernel_rfl) t_strconv_Itoa_, List.forall_mem_cons.2 ⟨BodyOK.of_tie funOkLg Tryd.func132 (by kernel_rfl) t_strconv_small, List.forall_mem_cons.2 ⟨BodyOK.of_tie funOkLg Tryd.func133 (by kernel_rfl) t_strconv_numDigits, List.forall_mem_cons.2 ⟨BodyOK.of_tie funOkLg Tryd.func134 (by kernel_rfl) t_strconv_formatBase10, List.forall_mem_cons.2 ⟨BodyOK.of_tie funOkLg Tryd.func135 (by kernel_rfl) t_strconv_formatBits, List.forall_mem_cons.2 ⟨BodyOK.of_tie funOkLg Tryd.func112 (by kernel_rfl) t_cmp_isNaN_rune, List.forall_mem_cons.2 ⟨BodyOK.of_tie funOkLg Tryd.func99 (by kernel_rfl) t_strings_explode, List.forall_mem_cons.2 ⟨BodyOK.of_tie funOkLg Tryd.func101 (by kernel_rfl) t_strings_Index, List.forall_mem_cons.2 ⟨BodyOK.of_tie funOkLg Tryd.func100 (by kernel_rfl) t_strings_Count, List.forall_mem_cons.2 ⟨BodyOK.of_tie funOkLg Tryd.func119 (by kernel_rfl) t_stringslite_Cut, List.forall_mem_cons.2 ⟨BodyOK.of_tie funOkLg Tryd.func137 (by kernel_rfl) t_bits_Len64, List.forall_mem_cons.2 ⟨BodyOK.of_tie funOkLg Tryd.func136 (by kernel_rfl) t_strconv_log10Pow2, List.forall_mem_cons.2 ⟨BodyOK.of_tie funOkLg Tryd.func139 (by kernel_rfl) t_strconv_isPowerOfTwo, List.forall_mem_cons.2 ⟨BodyOK.of_tie funOkLg Tryd.func140 (by kernel_rfl) t_bits_TrailingZeros, List.forall_mem_cons.2 ⟨BodyOK.of_tie funOkLg Tryd.func115 (by kernel_rfl) t_utf8_RuneCountInString, List.forall_mem_cons.2 ⟨BodyOK.of_tie funOkLg Tryd.func116 (by kernel_rfl) t_utf8_DecodeRuneInString, List.forall_mem_cons.2 ⟨nat_CountString_ok Tryd.func117 (by kernel_rfl) (by kernel_rfl) (by kernel_rfl) (by kernel_rfl), List.forall_mem_cons.2 ⟨BodyOK.of_tie funOkLg Tryd.func118 (by kernel_rfl) t_stringslite_Index, List.forall_mem_cons.2 ⟨BodyOK.of_tie funOkLg Tryd.func138 (by kernel_rfl) t_internal_strconv_bool2_int, List.forall_mem_cons.2 ⟨BodyOK.of_tie funOkLg Tryd.func142 (by kernel_rfl) t_bits_TrailingZeros64, List.forall_mem_cons.2 ⟨BodyOK.of_tie funOkLg Tryd.func124 (by kernel_rfl) t_utf8_decodeRuneInStringSlow, List.forall_mem_cons.2 ⟨BodyOK.of_tie funOkLg Tryd.func125 (by kernel_rfl) t_stringslite_IndexByte, List.forall_mem_cons.2 ⟨nat_IndexByteString_ok Tryd.func130 (by kernel_rfl) (by kernel_rfl) (by kernel_rfl) (by kernel_rfl), List.forall_mem_cons.2 ⟨BodyOK.of_tie funOkLg Tryd.func66 (by kernel_rfl) t_digit_ShowHandle, List.forall_mem_cons.2 ⟨BodyOK.of_tie funOkLg Tryd.func45 (by kernel_rfl) t_ref03_Handle, List.forall_mem_cons.2 ⟨BodyOK.of_tie funOkLg Tryd.func29 (by kernel_rfl) t_ref01_Ints, List.forall_mem_cons.2 ⟨BodyOK.of_tie funOkLg Tryd.func4 (by kernel_rfl) t_law33_LedgerPrints, List.forall_mem_cons.2 ⟨BodyOK.of_tie funOkLg Tryd.func12 (by kernel_rfl) t_law33_awake, List.forall_mem_cons.2 ⟨BodyOK.of_tie funOkLg Tryd.func14 (by kernel_rfl) t_ledger_Print, List.forall_mem_cons.2 ⟨BodyOK.of_tie funOkLg Tryd.func15 (by kernel_rfl) t_ref26_May, List.forall_mem_cons.2 ⟨BodyOK.of_tie funOkLg Tryd.func16 (by kernel_rfl) t_ledger_May, List.forall_mem_cons.2 ⟨BodyOK.of_tie funOkLg Tryd.func17 (by kernel_rfl) t_ledger_Read, List.forall_mem_cons.2 ⟨BodyOK.of_tie funOkLg Tryd.func19 (by kernel_rfl) t_ref26_Same, List.forall_mem_cons.2 ⟨BodyOK.of_tie funOkLg Tryd.func18 (by kernel_rfl) t_ref33_Print, List.forall_mem_cons.2 ⟨BodyOK.of_tie funOkLg Tryd.func13 (by kernel_rfl) t_law26_Small, List.forall_mem_cons.2 ⟨BodyOK.of_tie funOkLg Tryd.func5 (by kernel_rfl) t_law33_LedgerApart, List.forall_mem_cons.2 ⟨BodyOK.of_tie funOkLg Tryd.func30 (by kernel_rfl) t_ledger_text, List.forall_mem_cons.2 ⟨BodyOK.of_tie funOkLg Tryd.func31 (by kernel_rfl) t_ref12_Right, List.forall_mem_cons.2 ⟨BodyOK.of_tie funOkLg Tryd.func33 (by kernel_rfl) t_ref26_Entries, List.forall_mem_cons.2 ⟨BodyOK.of_tie funOkLg Tryd.func34 (by kernel_rfl) t_ref10_Has, List.forall_mem_cons.2 ⟨BodyOK.of_tie funOkLg Tryd.func32 (by kernel_rfl) t_ref26_heaps, List.forall_mem_cons.2 ⟨BodyOK.of_tie funOkLg Tryd.func35 (by kernel_rfl) t_geom_Right, List.forall_mem_cons.2 ⟨BodyOK.of_tie funOkLg Tryd.func37 (by kernel_rfl) t_ledger_May_1, List.forall_mem_cons.2 ⟨BodyOK.of_tie funOkLg Tryd.func36 (by kernel_rfl) t_slices_ContainsFunc_int_int, List.forall_mem_cons.2 ⟨BodyOK.of_tie funOkLg Tryd.func40 (by kernel_rfl) t_ledger_book_wrong, List.forall_mem_cons.2 ⟨BodyOK.of_tie funOkLg Tryd.func39 (by kernel_rfl) t_slices_ContainsFunc_api_Heap_api_Heap, List.forall_mem_cons.2 ⟨BodyOK.of_tie funOkLg Tryd.func41 (by kernel_rfl) t_ledger_book_free, List.forall_mem_cons.2 ⟨BodyOK.of_tie funOkLg Tryd.func43 (by kernel_rfl) t_ledger_reader_take, List.forall_mem_cons.2 ⟨BodyOK.of_tie funOkLg Tryd.func44 (by kernel_rfl) t_ref33_words, List.forall_mem_cons.2 ⟨BodyOK.of_tie funOkLg Tryd.func46 (by kernel_rfl) t_ref08_Entries, List.forall_mem_cons.2 ⟨BodyOK.of_tie funOkLg Tryd.func65 (by kernel_rfl) t_ledger_line, List.forall_mem_cons.2 ⟨BodyOK.of_tie funOkLg Tryd.func70 (by kernel_rfl) t_ref08_Ahead, List.forall_mem_cons.2 ⟨BodyOK.of_tie funOkLg Tryd.func71 (by kernel_rfl) t_slices_IndexFunc_int_int, List.forall_mem_cons.2 ⟨BodyOK.of_tie funOkLg Tryd.func74 (by kernel_rfl) t_slices_IndexFunc_api_Heap_api_Heap, List.forall_mem_cons.2 ⟨BodyOK.of_tie funOkLg Tryd.func75 (by kernel_rfl) t_ledger_book_take, List.forall_mem_cons.2 ⟨BodyOK.of_tie funOkLg Tryd.func76 (by kernel_rfl) t_node_Compare, List.forall_mem_cons.2 ⟨BodyOK.of_tie funOkLg Tryd.func79 (by kernel_rfl) t_ledger_numbers, List.forall_mem_cons.2 ⟨BodyOK.of_tie funOkLg Tryd.func97 (by kernel_rfl) t_cmp_Compare_int, List.forall_mem_cons.2 ⟨BodyOK.of_tie funOkLg Tryd.func96 (by kernel_rfl) t_cmp_Or_int, List.forall_mem_cons.2 ⟨BodyOK.of_tie funOkLg Tryd.func113 (by kernel_rfl) t_cmp_isNaN_int, (fun _ h => by cases h)⟩⟩⟩⟩⟩⟩⟩⟩⟩⟩⟩⟩⟩⟩⟩⟩⟩⟩⟩⟩⟩⟩⟩⟩⟩⟩⟩⟩⟩⟩⟩⟩⟩⟩⟩⟩⟩⟩⟩⟩⟩⟩⟩⟩⟩⟩⟩⟩⟩⟩⟩⟩⟩⟩⟩⟩⟩⟩⟩⟩⟩⟩⟩⟩⟩⟩⟩⟩⟩⟩⟩⟩⟩⟩⟩⟩⟩⟩⟩⟩⟩⟩⟩⟩⟩)
theorem has_ref04_follows : H_ref04_follows (bdOf bdsLg) := ⟨by kernel_rfl⟩
theorem has_ref04_First : H_ref04_First (bdOf bdsLg) := ⟨by kernel_rfl, has_ref04_follows⟩
theorem has_ref04_Runes : H_ref04_Runes (bdOf bdsLg) := ⟨by kernel_rfl, has_ref04_First⟩
theorem has_strings_Join : H_strings_Join (bdOf bdsLg) := ⟨by kernel_rfl⟩
theorem has_name_spans : H_name_spans (bdOf bdsLg) := ⟨by kernel_rfl⟩
theorem has_name_Of : H_name_Of (bdOf bdsLg) := ⟨by kernel_rfl, has_name_spans⟩
theorem has_name_Right : H_name_Right (bdOf bdsLg) := ⟨by kernel_rfl, has_name_Of⟩
theorem has_ref04_Of : H_ref04_Of (bdOf bdsLg) := ⟨by kernel_rfl⟩
theorem has_ref04_Right : H_ref04_Right (bdOf bdsLg) := ⟨by kernel_rfl, has_ref04_Of, has_ref04_Runes⟩
theorem has_name_Runes : H_name_Runes (bdOf bdsLg) := ⟨by kernel_rfl⟩
theorem has_cmp_isNaN_rune : H_cmp_isNaN_rune (bdOf bdsLg) := ⟨by kernel_rfl⟩
theorem has_cmp_Compare_rune : H_cmp_Compare_rune (bdOf bdsLg) := ⟨by kernel_rfl, has_cmp_isNaN_rune⟩
theorem has_slices_Compare_rune_rune : H_slices_Compare_rune_rune (bdOf bdsLg) := ⟨by kernel_rfl, has_cmp_Compare_rune⟩
theorem has_name_Compare : H_name_Compare (bdOf bdsLg) := ⟨by kernel_rfl, has_name_Runes, has_slices_Compare_rune_rune⟩
theorem has_ref04_Compare : H_ref04_Compare (bdOf bdsLg) := ⟨by kernel_rfl, has_ref04_Runes⟩
theorem has_strconv_small : H_strconv_small (bdOf bdsLg) := ⟨by kernel_rfl⟩
theorem has_strconv_log10Pow2 : H_strconv_log10Pow2 (bdOf bdsLg) := ⟨by kernel_rfl⟩
theorem has_bits_Len64 : H_bits_Len64 (bdOf bdsLg) := ⟨by kernel_rfl⟩
theorem has_internal_strconv_bool2_int : H_internal_strconv_bool2_int (bdOf bdsLg) := ⟨by kernel_rfl⟩
theorem has_strconv_numDigits : H_strconv_numDigits (bdOf bdsLg) := ⟨by kernel_rfl, has_strconv_log10Pow2, has_bits_Len64, has_internal_strconv_bool2_int⟩
theorem has_strconv_formatBase10 : H_strconv_formatBase10 (bdOf bdsLg) := ⟨by kernel_rfl⟩
theorem has_strconv_isPowerOfTwo : H_strconv_isPowerOfTwo (bdOf bdsLg) := ⟨by kernel_rfl⟩
theorem has_bits_TrailingZeros64 : H_bits_TrailingZeros64 (bdOf bdsLg) := ⟨fun c n => by kernel_rfl⟩
theorem has_bits_TrailingZeros : H_bits_TrailingZeros (bdOf bdsLg) := ⟨by kernel_rfl, has_bits_TrailingZeros64⟩
theorem has_strconv_formatBits : H_strconv_formatBits (bdOf bdsLg) := ⟨by kernel_rfl, has_strconv_isPowerOfTwo, has_bits_TrailingZeros⟩
theorem has_strconv_FormatInt_ : H_strconv_FormatInt_ (bdOf bdsLg) := ⟨by kernel_rfl, has_strconv_small, has_strconv_numDigits, has_strconv_formatBase10, has_strconv_formatBits⟩
theorem has_strconv_Itoa_ : H_strconv_Itoa_ (bdOf bdsLg) := ⟨by kernel_rfl, has_strconv_FormatInt_⟩
theorem has_strconv_Itoa : H_strconv_Itoa (bdOf bdsLg) := ⟨by kernel_rfl, has_strconv_Itoa_⟩
theorem has_digit_Show : H_digit_Show (bdOf bdsLg) := ⟨by kernel_rfl, has_strconv_Itoa⟩
theorem has_digit_reader_takes : H_digit_reader_takes (bdOf bdsLg) := ⟨by kernel_rfl⟩
theorem has_digit_reader_number : H_digit_reader_number (bdOf bdsLg) := ⟨by kernel_rfl⟩
theorem has_digit_Read : H_digit_Read (bdOf bdsLg) := ⟨by kernel_rfl, has_digit_reader_takes, has_digit_reader_number⟩
theorem has_ref03_Show : H_ref03_Show (bdOf bdsLg) := ⟨by kernel_rfl⟩
theorem has_utf8_RuneCountInString : H_utf8_RuneCountInString (bdOf bdsLg) := ⟨by kernel_rfl⟩
theorem has_utf8_decodeRuneInStringSlow : H_utf8_decodeRuneInStringSlow (bdOf bdsLg) := ⟨by kernel_rfl⟩
theorem has_utf8_DecodeRuneInString : H_utf8_DecodeRuneInString (bdOf bdsLg) := ⟨by kernel_rfl, has_utf8_decodeRuneInStringSlow⟩
theorem has_strings_explode : H_strings_explode (bdOf bdsLg) := ⟨by kernel_rfl, has_utf8_RuneCountInString, has_utf8_DecodeRuneInString⟩
theorem has_bytealg_IndexByteString : H_bytealg_IndexByteString (bdOf bdsLg) := ⟨by kernel_rfl⟩
theorem has_stringslite_IndexByte : H_stringslite_IndexByte (bdOf bdsLg) := ⟨by kernel_rfl, has_bytealg_IndexByteString⟩
theorem has_stringslite_Index : H_stringslite_Index (bdOf bdsLg) := ⟨by kernel_rfl, has_stringslite_IndexByte⟩
theorem has_strings_Index : H_strings_Index (bdOf bdsLg) := ⟨by kernel_rfl, has_stringslite_Index⟩
theorem has_bytealg_CountString : H_bytealg_CountString (bdOf bdsLg) := ⟨by kernel_rfl⟩
theorem has_strings_Count : H_strings_Count (bdOf bdsLg) := ⟨by kernel_rfl, has_strings_Index, has_utf8_RuneCountInString, has_bytealg_CountString⟩
theorem has_strings_genSplit : H_strings_genSplit (bdOf bdsLg) := ⟨by kernel_rfl, has_strings_explode, has_strings_Count, has_strings_Index⟩
theorem has_strings_Split : H_strings_Split (bdOf bdsLg) := ⟨by kernel_rfl, has_strings_genSplit⟩
theorem has_stringslite_Cut : H_stringslite_Cut (bdOf bdsLg) := ⟨by kernel_rfl, has_stringslite_Index⟩
theorem has_strings_Cut : H_strings_Cut (bdOf bdsLg) := ⟨by kernel_rfl, has_stringslite_Cut⟩
theorem has_digit_ReadHandle : H_digit_ReadHandle (bdOf bdsLg) := ⟨by kernel_rfl, has_digit_Read, has_strings_Cut⟩
theorem has_digit_ShowHandle : H_digit_ShowHandle (bdOf bdsLg) := ⟨by kernel_rfl, has_digit_Show⟩
theorem has_ref03_Handle : H_ref03_Handle (bdOf bdsLg) := ⟨by kernel_rfl, has_ref03_Show⟩
theorem has_ref01_Ints : H_ref01_Ints (bdOf bdsLg) := ⟨by kernel_rfl⟩
theorem has_geom_Right : H_geom_Right (bdOf bdsLg) := ⟨by kernel_rfl⟩
theorem has_slices_IndexFunc_int_int : H_slices_IndexFunc_int_int (bdOf bdsLg) := ⟨by kernel_rfl⟩
theorem has_slices_ContainsFunc_int_int : H_slices_ContainsFunc_int_int (bdOf bdsLg) := ⟨by kernel_rfl, has_slices_IndexFunc_int_int⟩
theorem has_ledger_May_1 : H_ledger_May_1 (bdOf bdsLg) := ⟨by kernel_rfl⟩
theorem has_slices_IndexFunc_api_Heap_api_Heap : H_slices_IndexFunc_api_Heap_api_Heap (bdOf bdsLg) := ⟨by kernel_rfl⟩
theorem has_slices_ContainsFunc_api_Heap_api_Heap : H_slices_ContainsFunc_api_Heap_api_Heap (bdOf bdsLg) := ⟨by kernel_rfl, has_slices_IndexFunc_api_Heap_api_Heap⟩
theorem has_ledger_book_take : H_ledger_book_take (bdOf bdsLg) := ⟨by kernel_rfl⟩
theorem has_cmp_Or_int : H_cmp_Or_int (bdOf bdsLg) := ⟨by kernel_rfl⟩
theorem has_cmp_isNaN_int : H_cmp_isNaN_int (bdOf bdsLg) := ⟨by kernel_rfl⟩
theorem has_cmp_Compare_int : H_cmp_Compare_int (bdOf bdsLg) := ⟨by kernel_rfl, has_cmp_isNaN_int⟩
theorem has_node_Compare : H_node_Compare (bdOf bdsLg) := ⟨by kernel_rfl, has_cmp_Or_int, has_cmp_Compare_int⟩
theorem has_ledger_book_wrong : H_ledger_book_wrong (bdOf bdsLg) := ⟨by kernel_rfl, has_ledger_book_take, has_node_Compare, has_name_Right⟩
theorem has_ledger_book_free : H_ledger_book_free (bdOf bdsLg) := ⟨by kernel_rfl, has_ledger_book_take⟩
theorem has_ledger_May : H_ledger_May (bdOf bdsLg) := ⟨by kernel_rfl, has_geom_Right, has_slices_ContainsFunc_int_int, has_ledger_May_1, has_name_Compare, has_slices_ContainsFunc_api_Heap_api_Heap, has_ledger_book_wrong, has_ledger_book_free⟩
theorem has_ledger_line : H_ledger_line (bdOf bdsLg) := ⟨by kernel_rfl, has_digit_Show⟩
theorem has_ledger_text : H_ledger_text (bdOf bdsLg) := ⟨by kernel_rfl, has_ledger_line, has_digit_ShowHandle, has_strings_Join⟩
theorem has_ledger_Print : H_ledger_Print (bdOf bdsLg) := ⟨by kernel_rfl, has_ledger_May, has_ledger_text⟩
theorem has_ledger_numbers : H_ledger_numbers (bdOf bdsLg) := ⟨by kernel_rfl, has_digit_Read⟩
theorem has_ledger_reader_take : H_ledger_reader_take (bdOf bdsLg) := ⟨by kernel_rfl, has_strings_Join, has_ledger_numbers, has_digit_ReadHandle⟩
theorem has_ledger_Read : H_ledger_Read (bdOf bdsLg) := ⟨by kernel_rfl, has_ledger_Print, has_strings_Split, has_ledger_reader_take⟩
theorem has_law33_awake : H_law33_awake (bdOf bdsLg) := ⟨by kernel_rfl, has_ledger_Print, has_ledger_Read⟩
theorem has_law26_Small : H_law26_Small (bdOf bdsLg) := ⟨by kernel_rfl⟩
theorem has_ref12_Right : H_ref12_Right (bdOf bdsLg) := ⟨by kernel_rfl⟩
theorem has_ref08_Ahead : H_ref08_Ahead (bdOf bdsLg) := ⟨by kernel_rfl⟩
theorem has_ref26_heaps : H_ref26_heaps (bdOf bdsLg) := ⟨by kernel_rfl, has_ref04_Right, has_ref04_Compare, has_ref08_Ahead⟩
theorem has_ref26_Entries : H_ref26_Entries (bdOf bdsLg) := ⟨by kernel_rfl⟩
theorem has_ref10_Has : H_ref10_Has (bdOf bdsLg) := ⟨by kernel_rfl⟩
theorem has_ref26_May : H_ref26_May (bdOf bdsLg) := ⟨by kernel_rfl, has_ref12_Right, has_ref26_heaps, has_ref26_Entries, has_ref10_Has⟩
theorem has_ref33_words : H_ref33_words (bdOf bdsLg) := ⟨by kernel_rfl, has_ref03_Show⟩
theorem has_ref33_Print : H_ref33_Print (bdOf bdsLg) := ⟨by kernel_rfl, has_ref33_words, has_ref03_Handle⟩
theorem has_ref08_Entries : H_ref08_Entries (bdOf bdsLg) := ⟨by kernel_rfl⟩
theorem has_ref26_Same : H_ref26_Same (bdOf bdsLg) := ⟨by kernel_rfl, has_ref01_Ints, has_ref08_Entries⟩
theorem has_law33_LedgerPrints : H_law33_LedgerPrints (bdOf bdsLg) := ⟨by kernel_rfl, has_law33_awake, has_law26_Small, has_ledger_Print, has_ref26_May, has_ledger_May, has_ledger_Read, has_ref33_Print, has_ref26_Same⟩
theorem has_law33_LedgerApart : H_law33_LedgerApart (bdOf bdsLg) := ⟨by kernel_rfl, has_law33_awake, has_law26_Small, has_ledger_Print, has_ref26_May, has_ref26_Same⟩
end Go.Gv
