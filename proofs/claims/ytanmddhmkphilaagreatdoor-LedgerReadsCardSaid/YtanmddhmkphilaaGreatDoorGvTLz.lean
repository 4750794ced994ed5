/- The ties of a seat: written by gvseat.py. -/
import Derived.Test.YtanmddhmkphilaaGreatDoorGvZRun
import Derived.Test.YtanmddhmkphilaaGreatDoorGvZBod
import Derived.Test.YtanmddhmkphilaaGreatDoorProg
namespace Go.Gv
open Go.Proofs
set_option maxRecDepth 100000
noncomputable section
def cfgLz : Cfg := ⟨Tryz.prog, lkN [(69, 12), (22, 14), (83, 15), (90, 19), (58, 26), (49, 27), (74, 28), (70, 29), (54, 34), (34, 39), (50, 40), (59, 49), (43, 50), (48, 51), (24, 53), (86, 54), (53, 57), (9, 58), (23, 59), (75, 60), (65, 61), (64, 62), (91, 63), (71, 64), (20, 65), (47, 66), (87, 67), (92, 68), (93, 69), (94, 70), (95, 71), (84, 72), (40, 73), (42, 74), (41, 75), (68, 76), (97, 77), (96, 78), (99, 79), (100, 80), (60, 81), (61, 82), (62, 83), (63, 84), (98, 85), (102, 86), (76, 87), (77, 88), (88, 89), (13, 95), (39, 98), (25, 99), (16, 113), (4, 131), (8, 132), (14, 133), (18, 134), (5, 135), (7, 136), (15, 137), (19, 140), (26, 141), (28, 142), (29, 143), (27, 144), (31, 145), (33, 146), (32, 147), (36, 148), (35, 149), (37, 150), (10, 151), (30, 152), (17, 153), (38, 154), (51, 155), (52, 156), (55, 157), (56, 158), (57, 159), (21, 160), (73, 161), (72, 162), (85, 163), (3, 164), (6, 165), (11, 166), (12, 167)], has [69, 22, 83, 90, 58, 49, 74, 70, 54, 34, 50, 59, 43, 48, 24, 86, 53, 9, 23, 75, 65, 64, 91, 71, 20, 47, 87, 92, 93, 94, 95, 84, 40, 42, 41, 68, 97, 96, 99, 100, 60, 61, 62, 63, 98, 102, 76, 77, 88, 13, 39, 25, 16, 4, 8, 14, 18, 5, 7, 15, 19, 26, 28, 29, 27, 31, 33, 32, 36, 35, 37, 10, 30, 17, 38, 51, 52, 55, 56, 57, 21, 73, 72, 85, 3, 6, 11, 12], tyN [(9, 0)], lkN [(1, 4), (2, 5), (3, 1), (5, 2)], has [1, 2, 3, 5], lkE [(24, [.int .i64, .int .i64, .int .i64]), (50, [.int .i64, .int .i64, .int .i64, .int .i64])]⟩
theorem t_ref04_Runes : bodyM cfgLz ⟨[], (.n .z (.n .z (.n (.j [(3, .v (.b (.slice 1)))] (.j [(0, .v (.b (.str))), (3, .v (.b (.slice 1)))] .z .z) .z) .z))), true⟩ Tryz.f69 = b_ref04_Runes := by kernel_rfl
theorem t_ref04_First : bodyM cfgLz ⟨[], (.n .z (.n .z (.n .z (.n (.n (.n .z (.n .z (.n .z (.n .z (.n .z (.j [] (.n (.n .z (.j [(5, .v (.b (.int .u8)))] .z .z)) (.n (.n .z (.j [(6, .v (.b (.int .u8)))] .z .z)) .z)) (.n .z (.j [] (.n (.n .z (.j [(5, .v (.b (.int .u8)))] .z .z)) (.n (.n .z (.j [(6, .v (.b (.int .u8)))] .z .z)) .z)) .z)))))))) .z) .z)))), false⟩ Tryz.f83 = b_ref04_First := by kernel_rfl
theorem t_ref04_follows : bodyM cfgLz ⟨[], .z, false⟩ Tryz.f90 = b_ref04_follows := by kernel_rfl
theorem t_name_Right : bodyM cfgLz ⟨[], (.n .z (.n .z (.n (.n .z (.j [(3, .v (.b (.int .i64)))] (.j [(3, .v (.b (.int .i64))), (7, .t)] .z .z) .z)) .z))), false⟩ Tryz.f58 = b_name_Right := by kernel_rfl
theorem t_ref04_Right : bodyM cfgLz ⟨[], (.n .z (.n .z (.n .z (.n (.n .z (.j [(4, .v (.b (.bool)))] (.j [(4, .v (.b (.bool))), (5, .v (.b (.int .i64)))] .z .z) .z)) .z)))), false⟩ Tryz.f49 = b_ref04_Right := by kernel_rfl
theorem t_name_Of : bodyM cfgLz ⟨[4], (.n .z (.n (.n .z (.j [] (.j [(6, .v (.b (.int .i64)))] .z .z) .z)) .z)), false⟩ Tryz.f74 = b_name_Of := by kernel_rfl
theorem t_ref04_Of : bodyM cfgLz ⟨[], .z, false⟩ Tryz.f70 = b_ref04_Of := by kernel_rfl
theorem t_name_Runes : bodyM cfgLz ⟨[], (.n .z (.n .z (.n (.n .z (.j [(3, .v (.b (.slice 1)))] (.j [(3, .v (.b (.slice 1))), (7, .t)] .z .z) .z)) .z))), true⟩ Tryz.f54 = b_name_Runes := by kernel_rfl
theorem t_name_Compare : bodyM cfgLz ⟨[], .z, false⟩ Tryz.f34 = b_name_Compare := by kernel_rfl
theorem t_ref04_Compare : bodyM cfgLz ⟨[], (.n .z (.n .z (.n (.n .z (.j [] (.j [(7, .v (.b (.int .i64)))] .z .z) .z)) .z))), false⟩ Tryz.f50 = b_ref04_Compare := by kernel_rfl
theorem t_digit_Show : bodyM cfgLz ⟨[], .z, false⟩ Tryz.f59 = b_digit_Show := by kernel_rfl
theorem t_digit_Read : bodyM cfgLz ⟨[], (.n .z (.n .z (.n (.n .z (.j [] (.j [(8, .t)] .z .z) .z)) .z))), false⟩ Tryz.f43 = b_digit_Read := by kernel_rfl
theorem t_ref03_Show : bodyM cfgLz ⟨[], (.n .z (.n .z (.n .z (.n (.n .z (.j [(3, .v (.b (.str)))] (.j [(3, .v (.b (.str))), (4, .v (.b (.int .i64)))] (.n .z (.n (.n (.n .z (.n (.n .z (.j [(5, .v (.b (.int .i64)))] .z .z)) .z)) .z) .z)) .z) .z)) .z)))), false⟩ Tryz.f48 = b_ref03_Show := by kernel_rfl
theorem t_ref03_Read : bodyM cfgLz ⟨[], (.n .z (.n .z (.n .z (.n (.n .z (.j [(4, .v (.b (.int .i64)))] (.j [(4, .v (.b (.int .i64))), (5, .v (.b (.int .i64)))] (.n .z (.n (.n (.n .z (.j [(4, .v (.b (.int .i64)))] (.n .z (.n (.n .z (.j [(6, .v (.b (.int .i64)))] .z .z)) .z)) .z)) .z) .z)) .z) .z)) .z)))), false⟩ Tryz.f24 = b_ref03_Read := by kernel_rfl
theorem t_name_spans : bodyM cfgLz ⟨[0], .z, false⟩ Tryz.f86 = b_name_spans := by kernel_rfl
theorem t_slices_Compare_rune_rune : bodyM cfgLz ⟨[], (.n .z (.n (.n .z (.j [] (.j [(11, .v (.b (.int .i64)))] .z .z) .z)) .z)), false⟩ Tryz.f53 = b_slices_Compare_rune_rune := by kernel_rfl
theorem t_strings_Split : bodyM cfgLz ⟨[], .z, true⟩ Tryz.f9 = b_strings_Split := by kernel_rfl
theorem t_digit_ReadHandle : bodyM cfgLz ⟨[2], .z, false⟩ Tryz.f23 = b_digit_ReadHandle := by kernel_rfl
theorem t_strconv_Itoa : bodyM cfgLz ⟨[], .z, false⟩ Tryz.f75 = b_strconv_Itoa := by kernel_rfl
theorem t_digit_reader_number : bodyM cfgLz ⟨[], (.n .z (.n (.n (.n (.n .z (.j [(4, .v (.b (.bool)))] .z (.n .z (.j [(4, .v (.b (.bool)))] .z .z)))) .z) .z) .z)), false⟩ Tryz.f65 = b_digit_reader_number := by kernel_rfl
theorem t_digit_reader_takes : bodyM cfgLz ⟨[], .z, false⟩ Tryz.f64 = b_digit_reader_takes := by kernel_rfl
theorem t_strconv_FormatInt_ : bodyM cfgLz ⟨[], (.n .z (.n (.n .z (.n (.n .z (.n .z (.n .z (.n (.n .z (.j [(6, .v (.b (.int .u64)))] .z .z)) .z)))) .z)) .z)), false⟩ Tryz.f91 = b_strconv_FormatInt_ := by kernel_rfl
theorem t_cmp_Compare_rune : bodyM cfgLz ⟨[], .z, false⟩ Tryz.f71 = b_cmp_Compare_rune := by kernel_rfl
theorem t_strings_genSplit : bodyM cfgLz ⟨[], (.n .z (.n .z (.n .z (.n (.n .z (.j [(3, .v (.b (.int .i64)))] .z .z)) (.n .z (.n .z (.n .z (.n .z (.n (.j [(0, .v (.b (.str))), (10, .v (.b (.int .i64)))] (.j [(0, .v (.b (.str))), (10, .v (.b (.int .i64)))] .z .z) .z) .z))))))))), true⟩ Tryz.f20 = b_strings_genSplit := by kernel_rfl
theorem t_strings_Cut : bodyM cfgLz ⟨[], .z, false⟩ Tryz.f47 = b_strings_Cut := by kernel_rfl
theorem t_strconv_Itoa_ : bodyM cfgLz ⟨[], .z, false⟩ Tryz.f87 = b_strconv_Itoa_ := by kernel_rfl
theorem t_strconv_small : bodyM cfgLz ⟨[], .z, false⟩ Tryz.f92 = b_strconv_small := by kernel_rfl
theorem t_strconv_numDigits : bodyM cfgLz ⟨[], .z, false⟩ Tryz.f93 = b_strconv_numDigits := by kernel_rfl
theorem t_strconv_formatBase10 : bodyM cfgLz ⟨[], (.n .z (.n (.j [(1, .v (.b (.int .u64))), (4, .v (.b (.int .i64)))] (.j [(1, .v (.b (.int .u64))), (4, .v (.b (.int .i64)))] .z .z) .z) (.n .z (.n (.n .z (.j [(4, .v (.b (.int .i64))), (12, .v (.b (.int .u32)))] .z .z)) (.n (.n .z (.j [(4, .v (.b (.int .i64))), (12, .v (.b (.int .u32)))] .z .z)) (.n .z (.j [] .z .z))))))), false⟩ Tryz.f94 = b_strconv_formatBase10 := by kernel_rfl
theorem t_strconv_formatBits : bodyM cfgLz ⟨[], (.n .z (.n (.n .z (.j [] .z .z)) (.n .z (.n .z (.n (.n .z (.j [(1, .v (.b (.int .u64)))] .z .z)) (.n (.n .z (.j [(13, .v (.b (.int .i64)))] (.n .z (.n .z (.n .z (.n (.j [(1, .v (.b (.int .u64))), (13, .v (.b (.int .i64)))] (.j [(1, .v (.b (.int .u64))), (13, .v (.b (.int .i64)))] .z .z) .z) .z)))) (.n .z (.n (.j [(1, .v (.b (.int .u64))), (13, .v (.b (.int .i64)))] (.j [(1, .v (.b (.int .u64))), (13, .v (.b (.int .i64)))] .z .z) .z) .z)))) (.n (.n .z (.j [(13, .v (.b (.int .i64)))] .z .z)) .z))))))), true⟩ Tryz.f95 = b_strconv_formatBits := by kernel_rfl
theorem t_cmp_isNaN_rune : bodyM cfgLz ⟨[], .z, false⟩ Tryz.f84 = b_cmp_isNaN_rune := by kernel_rfl
theorem t_strings_explode : bodyM cfgLz ⟨[], (.n .z (.n .z (.n (.n .z (.j [(1, .v (.b (.int .i64)))] .z .z)) (.n .z (.n (.n .z (.j [(0, .v (.b (.str)))] (.j [(0, .v (.b (.str))), (7, .v (.b (.int .i64)))] .z .z) .z)) (.n (.n .z (.j [] .z .z)) .z)))))), true⟩ Tryz.f40 = b_strings_explode := by kernel_rfl
theorem t_strings_Index : bodyM cfgLz ⟨[], .z, false⟩ Tryz.f42 = b_strings_Index := by kernel_rfl
theorem t_strings_Count : bodyM cfgLz ⟨[], (.n .z (.n .z (.n .z (.n .z (.n (.j [(0, .v (.b (.str))), (5, .v (.b (.int .i64)))] .z .z) .z))))), false⟩ Tryz.f41 = b_strings_Count := by kernel_rfl
theorem t_stringslite_Cut : bodyM cfgLz ⟨[], .z, false⟩ Tryz.f68 = b_stringslite_Cut := by kernel_rfl
theorem t_bits_Len64 : bodyM cfgLz ⟨[], (.n .z (.n (.n .z (.j [(0, .v (.b (.int .u64))), (2, .v (.b (.int .i64)))] .z .z)) (.n (.n .z (.j [(0, .v (.b (.int .u64))), (2, .v (.b (.int .i64)))] .z .z)) (.n (.n .z (.j [(0, .v (.b (.int .u64))), (2, .v (.b (.int .i64)))] .z .z)) .z)))), false⟩ Tryz.f97 = b_bits_Len64 := by kernel_rfl
theorem t_strconv_log10Pow2 : bodyM cfgLz ⟨[], .z, false⟩ Tryz.f96 = b_strconv_log10Pow2 := by kernel_rfl
theorem t_strconv_isPowerOfTwo : bodyM cfgLz ⟨[], .z, false⟩ Tryz.f99 = b_strconv_isPowerOfTwo := by kernel_rfl
theorem t_bits_TrailingZeros : bodyM cfgLz ⟨[], .z, false⟩ Tryz.f100 = b_bits_TrailingZeros := by kernel_rfl
theorem t_utf8_RuneCountInString : bodyM cfgLz ⟨[], (.n .z (.n (.n .z (.j [(2, .v (.b (.int .i64)))] (.j [(2, .v (.b (.int .i64))), (4, .t)] .z .z) .z)) .z)), false⟩ Tryz.f60 = b_utf8_RuneCountInString := by kernel_rfl
theorem t_utf8_DecodeRuneInString : bodyM cfgLz ⟨[], .z, false⟩ Tryz.f61 = b_utf8_DecodeRuneInString := by kernel_rfl
theorem t_stringslite_Index : bodyM cfgLz ⟨[], (.n .z (.n .z (.n .z (.n .z (.n .z (.n .z (.n .z (.n .z (.n (.j [] (.j [(8, .v (.b (.int .i64))), (10, .v (.b (.int .i64)))] (.n .z (.n (.n (.n .z (.j [(8, .v (.b (.int .i64)))] .z .z)) .z) .z)) .z) .z) .z))))))))), false⟩ Tryz.f63 = b_stringslite_Index := by kernel_rfl
theorem t_internal_strconv_bool2_int : bodyM cfgLz ⟨[], .z, false⟩ Tryz.f98 = b_internal_strconv_bool2_int := by kernel_rfl
def bLz_bits_TrailingZeros64 : Body := bodyM cfgLz ⟨[], .z, false⟩ Tryz.f102
theorem t_bits_TrailingZeros64 : bodyM cfgLz ⟨[], .z, false⟩ Tryz.f102 = bLz_bits_TrailingZeros64 := rfl
theorem t_utf8_decodeRuneInStringSlow : bodyM cfgLz ⟨[9], .z, false⟩ Tryz.f76 = b_utf8_decodeRuneInStringSlow := by kernel_rfl
theorem t_stringslite_IndexByte : bodyM cfgLz ⟨[], .z, false⟩ Tryz.f77 = b_stringslite_IndexByte := by kernel_rfl
theorem t_ref03_ReadHandle : bodyM cfgLz ⟨[2, 9], (.n .z (.n (.n .z (.j [(2, .l [.int .i64, .int .i64])] (.j [(2, .l [.int .i64, .int .i64]), (4, .v (.b (.int .i64)))] .z .z) .z)) .z)), false⟩ Tryz.f13 = b_ref03_ReadHandle := by kernel_rfl
theorem t_digit_ShowHandle : bodyM cfgLz ⟨[1], .z, false⟩ Tryz.f39 = b_digit_ShowHandle := by kernel_rfl
theorem t_ref03_Handle : bodyM cfgLz ⟨[1], .z, false⟩ Tryz.f25 = b_ref03_Handle := by kernel_rfl
theorem t_ref01_Ints : bodyM cfgLz ⟨[], (.n .z (.n .z (.n (.n .z (.j [] (.j [(5, .v (.b (.int .i64)))] .z .z) .z)) .z))), false⟩ Tryz.f16 = b_ref01_Ints := by kernel_rfl
theorem t_law33_awake : bodyM cfgLz ⟨[1, 4], .z, false⟩ Tryz.f4 = b_law33_awake := by kernel_rfl
theorem t_ledger_Print : bodyM cfgLz ⟨[1], .z, false⟩ Tryz.f8 = b_ledger_Print := by kernel_rfl
theorem t_ref26_May : bodyM cfgLz ⟨[1, 7], (.n .z (.n .z (.n .z (.n .z (.n .z (.n .z (.n (.n .z (.j [] (.j [(6, .v (.b (.int .i64)))] .z .z) .z)) (.n (.n .z (.j [] (.j [(8, .v (.b (.int .i64)))] .z .z) .z)) (.n (.n .z (.j [] (.j [(10, .v (.b (.int .i64)))] .z .z) .z)) .z))))))))), false⟩ Tryz.f14 = b_ref26_May := by kernel_rfl
theorem t_ledger_May : bodyM cfgLz ⟨[], (.n .z (.n .z (.n .z (.n (.n .z (.j [] (.j [(3, .v (.b (.int .i64)))] .z .z) .z)) .z)))), false⟩ Tryz.f18 = b_ledger_May := by kernel_rfl
theorem t_ledger_Read : bodyM cfgLz ⟨[2], (.n .z (.n .z (.n (.n .z (.j [] (.j [(12, .v (.b (.int .i64)))] .z .z) .z)) .z))), true⟩ Tryz.f5 = b_ledger_Read := by kernel_rfl
theorem t_ref26_Same : bodyM cfgLz ⟨[2, 3], (.n .z (.n .z (.n (.n .z (.j [] (.j [(5, .v (.b (.int .i64)))] .z .z) .z)) .z))), false⟩ Tryz.f7 = b_ref26_Same := by kernel_rfl
theorem t_ref33_Print : bodyM cfgLz ⟨[1], (.n .z (.n .z (.n (.n .z (.j [(3, .v (.b (.str)))] (.j [(3, .v (.b (.str))), (4, .v (.b (.int .i64)))] (.n .z (.n (.j [(3, .v (.b (.str)))] (.n .z (.n .z (.n .z (.j [(3, .v (.b (.str)))] (.j [(3, .v (.b (.str))), (6, .v (.b (.int .i64)))] .z .z) .z)))) .z) .z)) .z) .z)) .z))), false⟩ Tryz.f15 = b_ref33_Print := by kernel_rfl
theorem t_ledger_text : bodyM cfgLz ⟨[1, 5, 7], (.n .z (.n .z (.n (.n .z (.j [(3, .v (.b (.slice 1)))] (.j [(3, .v (.b (.slice 1))), (29, .v (.b (.int .i64)))] (.n .z (.n .z (.n (.j [(3, .v (.b (.slice 1)))] (.n .z (.n .z (.n .z (.j [(3, .v (.b (.slice 1)))] (.j [(3, .v (.b (.slice 1))), (43, .v (.b (.int .i64)))] .z .z) .z)))) .z) .z))) .z) .z)) .z))), false⟩ Tryz.f19 = b_ledger_text := by kernel_rfl
theorem t_ref12_Right : bodyM cfgLz ⟨[1], .z, false⟩ Tryz.f26 = b_ref12_Right := by kernel_rfl
theorem t_ref26_Entries : bodyM cfgLz ⟨[1], (.n .z (.n .z (.n (.n .z (.j [(3, .v (.b (.slice 4)))] (.j [(3, .v (.b (.slice 4))), (4, .v (.b (.int .i64)))] .z .z) .z)) .z))), true⟩ Tryz.f28 = b_ref26_Entries := by kernel_rfl
theorem t_ref10_Has : bodyM cfgLz ⟨[], (.n .z (.n (.n .z (.j [] (.j [(5, .v (.b (.int .i64)))] .z .z) .z)) .z)), false⟩ Tryz.f29 = b_ref10_Has := by kernel_rfl
theorem t_ref26_heaps : bodyM cfgLz ⟨[], (.n .z (.n .z (.n (.n .z (.j [] (.j [(3, .v (.b (.int .i64)))] (.n .z (.n (.j [] (.n .z (.n .z (.j [] (.j [(4, .v (.b (.int .i64)))] .z .z) .z))) .z) .z)) .z) .z)) .z))), false⟩ Tryz.f27 = b_ref26_heaps := by kernel_rfl
theorem t_geom_Right : bodyM cfgLz ⟨[1], .z, false⟩ Tryz.f31 = b_geom_Right := by kernel_rfl
theorem t_ledger_May_1 : bodyM cfgLz ⟨[], .z, false⟩ Tryz.f33 = b_ledger_May_1 := by kernel_rfl
theorem t_slices_ContainsFunc_int_int : bodyM cfgLz ⟨[], .z, false⟩ Tryz.f32 = b_slices_ContainsFunc_int_int := by kernel_rfl
theorem t_ledger_book_wrong : bodyM cfgLz ⟨[3, 6], (.n .z (.n (.n .z (.j [] (.j [(10, .v (.b (.int .i64)))] .z .z) .z)) .z)), false⟩ Tryz.f36 = b_ledger_book_wrong := by kernel_rfl
theorem t_slices_ContainsFunc_api_Heap_api_Heap : bodyM cfgLz ⟨[], .z, false⟩ Tryz.f35 = b_slices_ContainsFunc_api_Heap_api_Heap := by kernel_rfl
theorem t_ledger_book_free : bodyM cfgLz ⟨[], (.n .z (.n (.n .z (.j [] (.j [(13, .v (.b (.int .i64)))] .z .z) .z)) (.n (.n .z (.j [] (.j [(44, .v (.b (.int .i64)))] .z .z) .z)) .z))), false⟩ Tryz.f37 = b_ledger_book_free := by kernel_rfl
theorem t_ledger_reader_take : bodyM cfgLz ⟨[6, 8], (.n .z (.n .z (.n (.n .z (.j [] (.n .z (.j [] .z .z)) (.n .z (.j [] .z (.n .z (.j [] .z (.n .z (.j [] .z (.n .z (.j [] (.n .z (.n .z (.j [] .z .z))) .z)))))))))) .z))), false⟩ Tryz.f10 = b_ledger_reader_take := by kernel_rfl
theorem t_ref33_words : bodyM cfgLz ⟨[], (.n .z (.n (.n .z (.j [(0, .v (.b (.str)))] (.j [(0, .v (.b (.str))), (5, .v (.b (.int .i64)))] .z .z) .z)) .z)), false⟩ Tryz.f30 = b_ref33_words := by kernel_rfl
theorem t_ref08_Entries : bodyM cfgLz ⟨[], (.n .z (.n .z (.n (.n .z (.j [] (.j [(5, .v (.b (.int .i64)))] .z .z) .z)) .z))), false⟩ Tryz.f17 = b_ref08_Entries := by kernel_rfl
theorem t_ledger_line : bodyM cfgLz ⟨[], (.n .z (.n (.n .z (.j [(0, .v (.b (.str)))] (.j [(0, .v (.b (.str))), (9, .v (.b (.int .i64)))] .z .z) .z)) .z)), false⟩ Tryz.f38 = b_ledger_line := by kernel_rfl
theorem t_ref08_Ahead : bodyM cfgLz ⟨[2, 3], .z, false⟩ Tryz.f51 = b_ref08_Ahead := by kernel_rfl
theorem t_slices_IndexFunc_int_int : bodyM cfgLz ⟨[], (.n .z (.n (.n .z (.j [] (.j [(8, .v (.b (.int .i64)))] .z .z) .z)) .z)), false⟩ Tryz.f52 = b_slices_IndexFunc_int_int := by kernel_rfl
theorem t_slices_IndexFunc_api_Heap_api_Heap : bodyM cfgLz ⟨[], (.n .z (.n (.n .z (.j [] (.j [(8, .v (.b (.int .i64)))] .z .z) .z)) .z)), false⟩ Tryz.f55 = b_slices_IndexFunc_api_Heap_api_Heap := by kernel_rfl
theorem t_ledger_book_take : bodyM cfgLz ⟨[], .z, false⟩ Tryz.f56 = b_ledger_book_take := by kernel_rfl
theorem t_node_Compare : bodyM cfgLz ⟨[2, 3], .z, false⟩ Tryz.f57 = b_node_Compare := by kernel_rfl
theorem t_ledger_numbers : bodyM cfgLz ⟨[], (.n .z (.n .z (.n (.n .z (.j [(3, .v (.b (.slice 1)))] (.j [(3, .v (.b (.slice 1))), (10, .v (.b (.int .i64)))] (.n .z (.n .z (.n (.n (.n .z (.n .z (.n .z (.j [(3, .v (.b (.slice 1)))] .z .z)))) .z) .z))) .z) .z)) .z))), true⟩ Tryz.f21 = b_ledger_numbers := by kernel_rfl
theorem t_cmp_Compare_int : bodyM cfgLz ⟨[], .z, false⟩ Tryz.f73 = b_cmp_Compare_int := by kernel_rfl
theorem t_cmp_Or_int : bodyM cfgLz ⟨[], (.n .z (.n .z (.n (.n .z (.j [] (.j [(8, .v (.b (.int .i64)))] .z .z) .z)) .z))), false⟩ Tryz.f72 = b_cmp_Or_int := by kernel_rfl
theorem t_cmp_isNaN_int : bodyM cfgLz ⟨[], .z, false⟩ Tryz.f85 = b_cmp_isNaN_int := by kernel_rfl
theorem t_law33_LedgerReads : bodyM cfgLz ⟨[3, 5], .z, false⟩ Tryz.f3 = b_law33_LedgerReads := by kernel_rfl
theorem t_ref33_Read : bodyM cfgLz ⟨[2, 4, 10], (.n .z (.n .z (.n .z (.n (.n .z (.j [(4, .l [.int .i64, .int .i64, .int .i64, .slice 2, .slice 1, .slice 1])] (.j [(4, .l [.int .i64, .int .i64, .int .i64, .slice 2, .slice 1, .slice 1]), (6, .v (.b (.int .i64)))] (.n .z (.n (.n (.n .z (.n .z (.n .z (.n (.n .z (.j [(4, .l [.int .i64, .int .i64, .int .i64, .slice 2, .slice 1, .slice 1])] .z (.n .z (.j [(4, .l [.int .i64, .int .i64, .int .i64, .slice 2, .slice 1, .slice 1])] .z (.n .z (.j [(4, .l [.int .i64, .int .i64, .int .i64, .slice 2, .slice 1, .slice 1])] .z (.n .z (.j [(4, .l [.int .i64, .int .i64, .int .i64, .slice 2, .slice 1, .slice 1])] .z (.n .z (.j [] .z .z)))))))))) .z)))) .z) .z)) .z) .z)) .z)))), true⟩ Tryz.f6 = b_ref33_Read := by kernel_rfl
theorem t_ref33_cut : bodyM cfgLz ⟨[], (.n .z (.n .z (.n .z (.n (.n .z (.j [(5, .v (.b (.slice 1)))] (.j [(5, .v (.b (.slice 1))), (6, .v (.b (.int .i64))), (7, .v (.b (.int .i64)))] (.n .z (.n (.n (.n .z (.j [(5, .v (.b (.slice 1))), (6, .v (.b (.int .i64)))] .z .z)) .z) .z)) .z) .z)) .z)))), true⟩ Tryz.f11 = b_ref33_cut := by kernel_rfl
theorem t_ref33_ints : bodyM cfgLz ⟨[], (.n .z (.n .z (.n (.n .z (.j [(3, .v (.b (.slice 1)))] (.j [(3, .v (.b (.slice 1))), (4, .v (.b (.int .i64)))] (.n .z (.n (.n (.n .z (.n .z (.j [(3, .v (.b (.slice 1)))] .z .z))) .z) .z)) .z) .z)) .z))), true⟩ Tryz.f12 = b_ref33_ints := by kernel_rfl
end
noncomputable def ren_n156_Lz : Go.Shelf.Ren := ⟨fun | 156 => 22 | 165 => 44 | 166 => 45 | 169 => 46 | 240 => 66 | 241 => 67 | 276 => 81 | 277 => 82 | n => n, fun | 0 => 0 | 3 => 3 | 4 => 4 | 5 => 5 | 9 => 9 | 20 => 20 | 31 => 37 | 37 => 78 | 70 => 77 | 71 => 79 | 72 => 80 | 74 => 82 | 75 => 83 | 76 => 84 | 80 => 86 | 127 => 105 | 164 => 113 | n => n, fun | n => n⟩
theorem lays_n156_Lz : Lays.n156 Tryz.prog ren_n156_Lz where
  mixed := by kernel_rfl
  f156 := Tryz.func22.trans (congrArg some (by kernel_rfl))
  f165 := Tryz.func44.trans (congrArg some (by kernel_rfl))
  f166 := Tryz.func45.trans (congrArg some (by kernel_rfl))
  f169 := Tryz.func46.trans (congrArg some (by kernel_rfl))
  f240 := Tryz.func66.trans (congrArg some (by kernel_rfl))
  f241 := Tryz.func67.trans (congrArg some (by kernel_rfl))
  f276 := Tryz.func81.trans (congrArg some (by kernel_rfl))
  f277 := Tryz.func82.trans (congrArg some (by kernel_rfl))
  t0 := Tryz.underlying0
  a0 := Tryz.isAgg0
  z0 := Tryz.sizeOf0
  v0 := Tryz.zeroValue0
  t3 := Tryz.underlying3
  a3 := Tryz.isAgg3
  z3 := Tryz.sizeOf3
  v3 := Tryz.zeroValue3
  t4 := Tryz.underlying4
  a4 := Tryz.isAgg4
  z4 := Tryz.sizeOf4
  v4 := Tryz.zeroValue4
  t9 := Tryz.underlying9
  a9 := Tryz.isAgg9
  z9 := Tryz.sizeOf9
  v9 := Tryz.zeroValue9
  t20 := Tryz.underlying20
  a20 := Tryz.isAgg20
  z20 := Tryz.sizeOf20
  v20 := Tryz.zeroValue20
  t31 := Tryz.underlying37
  a31 := Tryz.isAgg37
  z31 := Tryz.sizeOf37
  v31 := Tryz.zeroValue37
  t37 := Tryz.underlying78
  a37 := Tryz.isAgg78
  z37 := Tryz.sizeOf78
  v37 := Tryz.zeroValue78
  t70 := Tryz.underlying77
  a70 := Tryz.isAgg77
  z70 := Tryz.sizeOf77
  v70 := Tryz.zeroValue77
  t72 := Tryz.underlying80
  a72 := Tryz.isAgg80
  z72 := Tryz.sizeOf80
  v72 := Tryz.zeroValue80
  t75 := Tryz.underlying83
  a75 := Tryz.isAgg83
  z75 := Tryz.sizeOf83
  v75 := Tryz.zeroValue83
  t76 := Tryz.underlying84
  a76 := Tryz.isAgg84
  z76 := Tryz.sizeOf84
  v76 := Tryz.zeroValue84
  t127 := Tryz.underlying105
  a127 := Tryz.isAgg105
  z127 := Tryz.sizeOf105
  v127 := Tryz.zeroValue105
  t164 := Tryz.underlying113
  a164 := Tryz.isAgg113
  z164 := Tryz.sizeOf113
  v164 := Tryz.zeroValue113
theorem extra_n156_Lz : Builder.Extra Tryz.prog ren_n156_Lz where
  sizeBuilder := by kernel_rfl
  liesBuilder := by kernel_rfl
  t5 := Tryz.underlying5
  a5 := Tryz.isAgg5
  z5 := Tryz.sizeOf5
  v5 := Tryz.zeroValue5
  infoByte := by kernel_rfl
  cellsByte := by kernel_rfl
  sizeByte := by kernel_rfl
  neB5 := by decide
theorem cfgOkLz : CfgOk cfgLz := ⟨tyN_inj (by kernel_rfl), (fun t h => eqTy_guard (lkE_ok (by kernel_rfl) t h)), (fun t h _ _ _ _ _ _ w hx hy he => eqTy_run (lkE_ok (by kernel_rfl) t h) w hx hy he), tae_of (e := 145) (by kernel_rfl) (by kernel_rfl)⟩
theorem funOkLz : FunOk cfgLz := ⟨cfgOkLz, by kernel_rfl⟩
noncomputable def bdsLz : List (Nat × Body) := [(12, b_ref04_Runes), (14, lib_Join), (15, b_ref04_First), (19, b_ref04_follows), (26, b_name_Right), (27, b_ref04_Right), (28, b_name_Of), (29, b_ref04_Of), (34, b_name_Runes), (39, b_name_Compare), (40, b_ref04_Compare), (49, b_digit_Show), (50, b_digit_Read), (51, b_ref03_Show), (53, b_ref03_Read), (54, b_name_spans), (57, b_slices_Compare_rune_rune), (58, b_strings_Split), (59, b_digit_ReadHandle), (60, b_strconv_Itoa), (61, b_digit_reader_number), (62, b_digit_reader_takes), (63, b_strconv_FormatInt_), (64, b_cmp_Compare_rune), (65, b_strings_genSplit), (66, b_strings_Cut), (67, b_strconv_Itoa_), (68, b_strconv_small), (69, b_strconv_numDigits), (70, b_strconv_formatBase10), (71, b_strconv_formatBits), (72, b_cmp_isNaN_rune), (73, b_strings_explode), (74, b_strings_Index), (75, b_strings_Count), (76, b_stringslite_Cut), (77, b_bits_Len64), (78, b_strconv_log10Pow2), (79, b_strconv_isPowerOfTwo), (80, b_bits_TrailingZeros), (81, b_utf8_RuneCountInString), (82, b_utf8_DecodeRuneInString), (83, nat_CountString), (84, b_stringslite_Index), (85, b_internal_strconv_bool2_int), (86, bLz_bits_TrailingZeros64), (87, b_utf8_decodeRuneInStringSlow), (88, b_stringslite_IndexByte), (89, nat_IndexByteString), (95, b_ref03_ReadHandle), (98, b_digit_ShowHandle), (99, b_ref03_Handle), (113, b_ref01_Ints), (131, b_law33_awake), (132, b_ledger_Print), (133, b_ref26_May), (134, b_ledger_May), (135, b_ledger_Read), (136, b_ref26_Same), (137, b_ref33_Print), (140, b_ledger_text), (141, b_ref12_Right), (142, b_ref26_Entries), (143, b_ref10_Has), (144, b_ref26_heaps), (145, b_geom_Right), (146, b_ledger_May_1), (147, b_slices_ContainsFunc_int_int), (148, b_ledger_book_wrong), (149, b_slices_ContainsFunc_api_Heap_api_Heap), (150, b_ledger_book_free), (151, b_ledger_reader_take), (152, b_ref33_words), (153, b_ref08_Entries), (154, b_ledger_line), (155, b_ref08_Ahead), (156, b_slices_IndexFunc_int_int), (157, b_slices_IndexFunc_api_Heap_api_Heap), (158, b_ledger_book_take), (159, b_node_Compare), (160, b_ledger_numbers), (161, b_cmp_Compare_int), (162, b_cmp_Or_int), (163, b_cmp_isNaN_int), (164, b_law33_LedgerReads), (165, b_ref33_Read), (166, b_ref33_cut), (167, b_ref33_ints)]
theorem bodiesLz : ∀ n, OracleOK cfgLz (run (bdOf bdsLz) n) :=
  seat_ok (cov := [69, 22, 83, 90, 58, 49, 74, 70, 54, 34, 50, 59, 43, 48, 24, 86, 53, 9, 23, 75, 65, 64, 91, 71, 20, 47, 87, 92, 93, 94, 95, 84, 40, 42, 41, 68, 97, 96, 99, 100, 60, 61, 62, 63, 98, 102, 76, 77, 88, 13, 39, 25, 16, 4, 8, 14, 18, 5, 7, 15, 19, 26, 28, 29, 27, 31, 33, 32, 36, 35, 37, 10, 30, 17, 38, 51, 52, 55, 56, 57, 21, 73, 72, 85, 3, 6, 11, 12]) rfl (by kernel_rfl) (List.forall_mem_cons.2 ⟨BodyOK.of_tie funOkLz Tryz.func69 (by kernel_rfl) t_ref04_Runes, List.forall_mem_cons.2 ⟨lib_Join_ok lays_n156_Lz extra_n156_Lz rfl Tryz.func22 (by kernel_rfl) (by kernel_rfl), List.forall_mem_cons.2 ⟨BodyOK.of_tie funOkLz Tryz.func83 (by kernel_rfl) t_ref04_First, List.forall_mem_cons.2 ⟨BodyOK.of_tie funOkLz Tryz.func90 (by kernel_rfl) t_ref04_follows, List.forall_mem_cons.2 ⟨BodyOK.of_tie funOkLz Tryz.func58 (by kernel_rfl) t_name_Right, List.forall_mem_cons.2 ⟨BodyOK.of_tie funOkLz Tryz.func49 (by kernel_rfl) t_ref04_Right, List.forall_mem_cons.2 ⟨BodyOK.of_tie funOkLz Tryz.func74 (by kernel_rfl) t_name_Of, List.forall_mem_cons.2 ⟨BodyOK.of_tie funOkLz Tryz.func70 (by kernel_rfl) t_ref04_Of, List.forall_mem_cons.2 ⟨BodyOK.of_tie funOkLz Tryz.func54 (by kernel_rfl) t_name_Runes, List.forall_mem_cons.2 ⟨BodyOK.of_tie funOkLz Tryz.func34 (by kernel_rfl) t_name_Compare, List.forall_mem_cons.2 ⟨BodyOK.of_tie funOkLz Tryz.func50 (by kernel_rfl) t_ref04_Compare, List.forall_mem_cons.2 ⟨BodyOK.of_tie funOkLz Tryz.func59 (by kernel_rfl) t_digit_Show, List.forall_mem_cons.2 ⟨BodyOK.of_tie funOkLz Tryz.func43 (by kernel_rfl) t_digit_Read, List.forall_mem_cons.2 ⟨BodyOK.of_tie funOkLz Tryz.func48 (by kernel_rfl) t_ref03_Show, List.forall_mem_cons.2 ⟨BodyOK.of_tie funOkLz Tryz.func24 (by kernel_rfl) t_ref03_Read, List.forall_mem_cons.2 ⟨BodyOK.of_tie funOkLz Tryz.func86 (by kernel_rfl) t_name_spans, List.forall_mem_cons.2 ⟨BodyOK.of_tie funOkLz Tryz.func53 (by kernel_rfl) t_slices_Compare_rune_rune, List.forall_mem_cons.2 ⟨BodyOK.of_tie funOkLz Tryz.func9 (by kernel_rfl) t_strings_Split, List.forall_mem_cons.2 ⟨BodyOK.of_tie funOkLz Tryz.func23 (by kernel_rfl) t_digit_ReadHandle, List.forall_mem_cons.2 ⟨BodyOK.of_tie funOkLz Tryz.func75 (by kernel_rfl) t_strconv_Itoa, List.forall_mem_cons.2 ⟨BodyOK.of_tie funOkLz Tryz.func65 (by kernel_rfl) t_digit_reader_number, List.forall_mem_cons.2 ⟨BodyOK.of_tie funOkLz Tryz.func64 (by kernel_rfl) t_digit_reader_takes, List.forall_mem_cons.2 ⟨BodyOK.of_tie funOkLz Tryz.func91 (by kernel_rfl) t_strconv_FormatInt_, List.forall_mem_cons.2 ⟨BodyOK.of_tie funOkLz Tryz.func71 (by kernel_rfl) t_cmp_Compare_rune, List.forall_mem_cons.2 ⟨BodyOK.of_tie funOkLz Tryz.func20 (by kernel_rfl) t_strings_genSplit, List.forall_mem_cons.2 ⟨BodyOK.of_tie funOkLz Tryz.func47 (by kernel_rfl) t_strings_Cut, List.forall_mem_cons.2 ⟨BodyOK.of_tie funOkLz Tryz.func87 (by kernel_rfl) t_strconv_Itoa_, List.forall_mem_cons.2 ⟨BodyOK.of_tie funOkLz Tryz.func92 (by kernel_rfl) t_strconv_small, List.forall_mem_cons.2 ⟨BodyOK.of_tie funOkLz Tryz.func93 (by kernel_rfl) t_strconv_numDigits, List.forall_mem_cons.2 ⟨BodyOK.of_tie funOkLz Tryz.func94 (by kernel_rfl) t_strconv_formatBase10, List.forall_mem_cons.2 ⟨BodyOK.of_tie funOkLz Tryz.func95 (by kernel_rfl) t_strconv_formatBits, List.forall_mem_cons.2 ⟨BodyOK.of_tie funOkLz Tryz.func84 (by kernel_rfl) t_cmp_isNaN_rune, List.forall_mem_cons.2 ⟨BodyOK.of_tie funOkLz Tryz.func40 (by kernel_rfl) t_strings_explode, List.forall_mem_cons.2 ⟨BodyOK.of_tie funOkLz Tryz.func42 (by kernel_rfl) t_strings_Index, List.forall_mem_cons.2 ⟨BodyOK.of_tie funOkLz Tryz.func41 (by kernel_rfl) t_strings_Count, List.forall_mem_cons.2 ⟨BodyOK.of_tie funOkLz Tryz.func68 (by kernel_rfl) t_stringslite_Cut, List.forall_mem_cons.2 ⟨BodyOK.of_tie funOkLz Tryz.func97 (by kernel_rfl) t_bits_Len64, List.forall_mem_cons.2 ⟨BodyOK.of_tie funOkLz Tryz.func96 (by kernel_rfl) t_strconv_log10Pow2, List.forall_mem_cons.2 ⟨BodyOK.of_tie funOkLz Tryz.func99 (by kernel_rfl) t_strconv_isPowerOfTwo, List.forall_mem_cons.2 ⟨BodyOK.of_tie funOkLz Tryz.func100 (by kernel_rfl) t_bits_TrailingZeros, List.forall_mem_cons.2 ⟨BodyOK.of_tie funOkLz Tryz.func60 (by kernel_rfl) t_utf8_RuneCountInString, List.forall_mem_cons.2 ⟨BodyOK.of_tie funOkLz Tryz.func61 (by kernel_rfl) t_utf8_DecodeRuneInString, List.forall_mem_cons.2 ⟨nat_CountString_ok Tryz.func62 (by kernel_rfl) (by kernel_rfl) (by kernel_rfl) (by kernel_rfl), List.forall_mem_cons.2 ⟨BodyOK.of_tie funOkLz Tryz.func63 (by kernel_rfl) t_stringslite_Index, List.forall_mem_cons.2 ⟨BodyOK.of_tie funOkLz Tryz.func98 (by kernel_rfl) t_internal_strconv_bool2_int, List.forall_mem_cons.2 ⟨BodyOK.of_tie funOkLz Tryz.func102 (by kernel_rfl) t_bits_TrailingZeros64, List.forall_mem_cons.2 ⟨BodyOK.of_tie funOkLz Tryz.func76 (by kernel_rfl) t_utf8_decodeRuneInStringSlow, List.forall_mem_cons.2 ⟨BodyOK.of_tie funOkLz Tryz.func77 (by kernel_rfl) t_stringslite_IndexByte, List.forall_mem_cons.2 ⟨nat_IndexByteString_ok Tryz.func88 (by kernel_rfl) (by kernel_rfl) (by kernel_rfl) (by kernel_rfl), List.forall_mem_cons.2 ⟨BodyOK.of_tie funOkLz Tryz.func13 (by kernel_rfl) t_ref03_ReadHandle, List.forall_mem_cons.2 ⟨BodyOK.of_tie funOkLz Tryz.func39 (by kernel_rfl) t_digit_ShowHandle, List.forall_mem_cons.2 ⟨BodyOK.of_tie funOkLz Tryz.func25 (by kernel_rfl) t_ref03_Handle, List.forall_mem_cons.2 ⟨BodyOK.of_tie funOkLz Tryz.func16 (by kernel_rfl) t_ref01_Ints, List.forall_mem_cons.2 ⟨BodyOK.of_tie funOkLz Tryz.func4 (by kernel_rfl) t_law33_awake, List.forall_mem_cons.2 ⟨BodyOK.of_tie funOkLz Tryz.func8 (by kernel_rfl) t_ledger_Print, List.forall_mem_cons.2 ⟨BodyOK.of_tie funOkLz Tryz.func14 (by kernel_rfl) t_ref26_May, List.forall_mem_cons.2 ⟨BodyOK.of_tie funOkLz Tryz.func18 (by kernel_rfl) t_ledger_May, List.forall_mem_cons.2 ⟨BodyOK.of_tie funOkLz Tryz.func5 (by kernel_rfl) t_ledger_Read, List.forall_mem_cons.2 ⟨BodyOK.of_tie funOkLz Tryz.func7 (by kernel_rfl) t_ref26_Same, List.forall_mem_cons.2 ⟨BodyOK.of_tie funOkLz Tryz.func15 (by kernel_rfl) t_ref33_Print, List.forall_mem_cons.2 ⟨BodyOK.of_tie funOkLz Tryz.func19 (by kernel_rfl) t_ledger_text, List.forall_mem_cons.2 ⟨BodyOK.of_tie funOkLz Tryz.func26 (by kernel_rfl) t_ref12_Right, List.forall_mem_cons.2 ⟨BodyOK.of_tie funOkLz Tryz.func28 (by kernel_rfl) t_ref26_Entries, List.forall_mem_cons.2 ⟨BodyOK.of_tie funOkLz Tryz.func29 (by kernel_rfl) t_ref10_Has, List.forall_mem_cons.2 ⟨BodyOK.of_tie funOkLz Tryz.func27 (by kernel_rfl) t_ref26_heaps, List.forall_mem_cons.2 ⟨BodyOK.of_tie funOkLz Tryz.func31 (by kernel_rfl) t_geom_Right, List.forall_mem_cons.2 ⟨BodyOK.of_tie funOkLz Tryz.func33 (by kernel_rfl) t_ledger_May_1, List.forall_mem_cons.2 ⟨BodyOK.of_tie funOkLz Tryz.func32 (by kernel_rfl) t_slices_ContainsFunc_int_int, List.forall_mem_cons.2 ⟨BodyOK.of_tie funOkLz Tryz.func36 (by kernel_rfl) t_ledger_book_wrong, List.forall_mem_cons.2 ⟨BodyOK.of_tie funOkLz Tryz.func35 (by kernel_rfl) t_slices_ContainsFunc_api_Heap_api_Heap, List.forall_mem_cons.2 ⟨BodyOK.of_tie funOkLz Tryz.func37 (by kernel_rfl) t_ledger_book_free, List.forall_mem_cons.2 ⟨BodyOK.of_tie funOkLz Tryz.func10 (by kernel_rfl) t_ledger_reader_take, List.forall_mem_cons.2 ⟨BodyOK.of_tie funOkLz Tryz.func30 (by kernel_rfl) t_ref33_words, List.forall_mem_cons.2 ⟨BodyOK.of_tie funOkLz Tryz.func17 (by kernel_rfl) t_ref08_Entries, List.forall_mem_cons.2 ⟨BodyOK.of_tie funOkLz Tryz.func38 (by kernel_rfl) t_ledger_line, List.forall_mem_cons.2 ⟨BodyOK.of_tie funOkLz Tryz.func51 (by kernel_rfl) t_ref08_Ahead, List.forall_mem_cons.2 ⟨BodyOK.of_tie funOkLz Tryz.func52 (by kernel_rfl) t_slices_IndexFunc_int_int, List.forall_mem_cons.2 ⟨BodyOK.of_tie funOkLz Tryz.func55 (by kernel_rfl) t_slices_IndexFunc_api_Heap_api_Heap, List.forall_mem_cons.2 ⟨BodyOK.of_tie funOkLz Tryz.func56 (by kernel_rfl) t_ledger_book_take, List.forall_mem_cons.2 ⟨BodyOK.of_tie funOkLz Tryz.func57 (by kernel_rfl) t_node_Compare, List.forall_mem_cons.2 ⟨BodyOK.of_tie funOkLz Tryz.func21 (by kernel_rfl) t_ledger_numbers, List.forall_mem_cons.2 ⟨BodyOK.of_tie funOkLz Tryz.func73 (by kernel_rfl) t_cmp_Compare_int, List.forall_mem_cons.2 ⟨BodyOK.of_tie funOkLz Tryz.func72 (by kernel_rfl) t_cmp_Or_int, List.forall_mem_cons.2 ⟨BodyOK.of_tie funOkLz Tryz.func85 (by kernel_rfl) t_cmp_isNaN_int, List.forall_mem_cons.2 ⟨BodyOK.of_tie funOkLz Tryz.func3 (by kernel_rfl) t_law33_LedgerReads, List.forall_mem_cons.2 ⟨BodyOK.of_tie funOkLz Tryz.func6 (by kernel_rfl) t_ref33_Read, List.forall_mem_cons.2 ⟨BodyOK.of_tie funOkLz Tryz.func11 (by kernel_rfl) t_ref33_cut, List.forall_mem_cons.2 ⟨BodyOK.of_tie funOkLz Tryz.func12 (by kernel_rfl) t_ref33_ints, (fun _ h => by cases h)⟩⟩⟩⟩⟩⟩⟩⟩⟩⟩⟩⟩⟩⟩⟩⟩⟩⟩⟩⟩⟩⟩⟩⟩⟩⟩⟩⟩⟩⟩⟩⟩⟩⟩⟩⟩⟩⟩⟩⟩⟩⟩⟩⟩⟩⟩⟩⟩⟩⟩⟩⟩⟩⟩⟩⟩⟩⟩⟩⟩⟩⟩⟩⟩⟩⟩⟩⟩⟩⟩⟩⟩⟩⟩⟩⟩⟩⟩⟩⟩⟩⟩⟩⟩⟩⟩⟩⟩)
theorem has_ref04_follows : H_ref04_follows (bdOf bdsLz) := ⟨by kernel_rfl⟩
theorem has_ref04_First : H_ref04_First (bdOf bdsLz) := ⟨by kernel_rfl, has_ref04_follows⟩
theorem has_ref04_Runes : H_ref04_Runes (bdOf bdsLz) := ⟨by kernel_rfl, has_ref04_First⟩
theorem has_strings_Join : H_strings_Join (bdOf bdsLz) := ⟨by kernel_rfl⟩
theorem has_name_spans : H_name_spans (bdOf bdsLz) := ⟨by kernel_rfl⟩
theorem has_name_Of : H_name_Of (bdOf bdsLz) := ⟨by kernel_rfl, has_name_spans⟩
theorem has_name_Right : H_name_Right (bdOf bdsLz) := ⟨by kernel_rfl, has_name_Of⟩
theorem has_ref04_Of : H_ref04_Of (bdOf bdsLz) := ⟨by kernel_rfl⟩
theorem has_ref04_Right : H_ref04_Right (bdOf bdsLz) := ⟨by kernel_rfl, has_ref04_Of, has_ref04_Runes⟩
theorem has_name_Runes : H_name_Runes (bdOf bdsLz) := ⟨by kernel_rfl⟩
theorem has_cmp_isNaN_rune : H_cmp_isNaN_rune (bdOf bdsLz) := ⟨by kernel_rfl⟩
theorem has_cmp_Compare_rune : H_cmp_Compare_rune (bdOf bdsLz) := ⟨by kernel_rfl, has_cmp_isNaN_rune⟩
theorem has_slices_Compare_rune_rune : H_slices_Compare_rune_rune (bdOf bdsLz) := ⟨by kernel_rfl, has_cmp_Compare_rune⟩
theorem has_name_Compare : H_name_Compare (bdOf bdsLz) := ⟨by kernel_rfl, has_name_Runes, has_slices_Compare_rune_rune⟩
theorem has_ref04_Compare : H_ref04_Compare (bdOf bdsLz) := ⟨by kernel_rfl, has_ref04_Runes⟩
theorem has_strconv_small : H_strconv_small (bdOf bdsLz) := ⟨by kernel_rfl⟩
theorem has_strconv_log10Pow2 : H_strconv_log10Pow2 (bdOf bdsLz) := ⟨by kernel_rfl⟩
theorem has_bits_Len64 : H_bits_Len64 (bdOf bdsLz) := ⟨by kernel_rfl⟩
theorem has_internal_strconv_bool2_int : H_internal_strconv_bool2_int (bdOf bdsLz) := ⟨by kernel_rfl⟩
theorem has_strconv_numDigits : H_strconv_numDigits (bdOf bdsLz) := ⟨by kernel_rfl, has_strconv_log10Pow2, has_bits_Len64, has_internal_strconv_bool2_int⟩
theorem has_strconv_formatBase10 : H_strconv_formatBase10 (bdOf bdsLz) := ⟨by kernel_rfl⟩
theorem has_strconv_isPowerOfTwo : H_strconv_isPowerOfTwo (bdOf bdsLz) := ⟨by kernel_rfl⟩
theorem has_bits_TrailingZeros64 : H_bits_TrailingZeros64 (bdOf bdsLz) := ⟨fun c n => by kernel_rfl⟩
theorem has_bits_TrailingZeros : H_bits_TrailingZeros (bdOf bdsLz) := ⟨by kernel_rfl, has_bits_TrailingZeros64⟩
theorem has_strconv_formatBits : H_strconv_formatBits (bdOf bdsLz) := ⟨by kernel_rfl, has_strconv_isPowerOfTwo, has_bits_TrailingZeros⟩
theorem has_strconv_FormatInt_ : H_strconv_FormatInt_ (bdOf bdsLz) := ⟨by kernel_rfl, has_strconv_small, has_strconv_numDigits, has_strconv_formatBase10, has_strconv_formatBits⟩
theorem has_strconv_Itoa_ : H_strconv_Itoa_ (bdOf bdsLz) := ⟨by kernel_rfl, has_strconv_FormatInt_⟩
theorem has_strconv_Itoa : H_strconv_Itoa (bdOf bdsLz) := ⟨by kernel_rfl, has_strconv_Itoa_⟩
theorem has_digit_Show : H_digit_Show (bdOf bdsLz) := ⟨by kernel_rfl, has_strconv_Itoa⟩
theorem has_digit_reader_takes : H_digit_reader_takes (bdOf bdsLz) := ⟨by kernel_rfl⟩
theorem has_digit_reader_number : H_digit_reader_number (bdOf bdsLz) := ⟨by kernel_rfl⟩
theorem has_digit_Read : H_digit_Read (bdOf bdsLz) := ⟨by kernel_rfl, has_digit_reader_takes, has_digit_reader_number⟩
theorem has_ref03_Show : H_ref03_Show (bdOf bdsLz) := ⟨by kernel_rfl⟩
theorem has_ref03_Read : H_ref03_Read (bdOf bdsLz) := ⟨by kernel_rfl, has_ref03_Show⟩
theorem has_utf8_RuneCountInString : H_utf8_RuneCountInString (bdOf bdsLz) := ⟨by kernel_rfl⟩
theorem has_utf8_decodeRuneInStringSlow : H_utf8_decodeRuneInStringSlow (bdOf bdsLz) := ⟨by kernel_rfl⟩
theorem has_utf8_DecodeRuneInString : H_utf8_DecodeRuneInString (bdOf bdsLz) := ⟨by kernel_rfl, has_utf8_decodeRuneInStringSlow⟩
theorem has_strings_explode : H_strings_explode (bdOf bdsLz) := ⟨by kernel_rfl, has_utf8_RuneCountInString, has_utf8_DecodeRuneInString⟩
theorem has_bytealg_IndexByteString : H_bytealg_IndexByteString (bdOf bdsLz) := ⟨by kernel_rfl⟩
theorem has_stringslite_IndexByte : H_stringslite_IndexByte (bdOf bdsLz) := ⟨by kernel_rfl, has_bytealg_IndexByteString⟩
theorem has_stringslite_Index : H_stringslite_Index (bdOf bdsLz) := ⟨by kernel_rfl, has_stringslite_IndexByte⟩
theorem has_strings_Index : H_strings_Index (bdOf bdsLz) := ⟨by kernel_rfl, has_stringslite_Index⟩
theorem has_bytealg_CountString : H_bytealg_CountString (bdOf bdsLz) := ⟨by kernel_rfl⟩
theorem has_strings_Count : H_strings_Count (bdOf bdsLz) := ⟨by kernel_rfl, has_strings_Index, has_utf8_RuneCountInString, has_bytealg_CountString⟩
theorem has_strings_genSplit : H_strings_genSplit (bdOf bdsLz) := ⟨by kernel_rfl, has_strings_explode, has_strings_Count, has_strings_Index⟩
theorem has_strings_Split : H_strings_Split (bdOf bdsLz) := ⟨by kernel_rfl, has_strings_genSplit⟩
theorem has_stringslite_Cut : H_stringslite_Cut (bdOf bdsLz) := ⟨by kernel_rfl, has_stringslite_Index⟩
theorem has_strings_Cut : H_strings_Cut (bdOf bdsLz) := ⟨by kernel_rfl, has_stringslite_Cut⟩
theorem has_digit_ReadHandle : H_digit_ReadHandle (bdOf bdsLz) := ⟨by kernel_rfl, has_digit_Read, has_strings_Cut⟩
theorem has_ref03_Handle : H_ref03_Handle (bdOf bdsLz) := ⟨by kernel_rfl, has_ref03_Show⟩
theorem has_ref03_ReadHandle : H_ref03_ReadHandle (bdOf bdsLz) := ⟨by kernel_rfl, has_ref03_Handle, has_ref03_Read⟩
theorem has_digit_ShowHandle : H_digit_ShowHandle (bdOf bdsLz) := ⟨by kernel_rfl, has_digit_Show⟩
theorem has_ref01_Ints : H_ref01_Ints (bdOf bdsLz) := ⟨by kernel_rfl⟩
theorem has_geom_Right : H_geom_Right (bdOf bdsLz) := ⟨by kernel_rfl⟩
theorem has_slices_IndexFunc_int_int : H_slices_IndexFunc_int_int (bdOf bdsLz) := ⟨by kernel_rfl⟩
theorem has_slices_ContainsFunc_int_int : H_slices_ContainsFunc_int_int (bdOf bdsLz) := ⟨by kernel_rfl, has_slices_IndexFunc_int_int⟩
theorem has_ledger_May_1 : H_ledger_May_1 (bdOf bdsLz) := ⟨by kernel_rfl⟩
theorem has_slices_IndexFunc_api_Heap_api_Heap : H_slices_IndexFunc_api_Heap_api_Heap (bdOf bdsLz) := ⟨by kernel_rfl⟩
theorem has_slices_ContainsFunc_api_Heap_api_Heap : H_slices_ContainsFunc_api_Heap_api_Heap (bdOf bdsLz) := ⟨by kernel_rfl, has_slices_IndexFunc_api_Heap_api_Heap⟩
theorem has_ledger_book_take : H_ledger_book_take (bdOf bdsLz) := ⟨by kernel_rfl⟩
theorem has_cmp_Or_int : H_cmp_Or_int (bdOf bdsLz) := ⟨by kernel_rfl⟩
theorem has_cmp_isNaN_int : H_cmp_isNaN_int (bdOf bdsLz) := ⟨by kernel_rfl⟩
theorem has_cmp_Compare_int : H_cmp_Compare_int (bdOf bdsLz) := ⟨by kernel_rfl, has_cmp_isNaN_int⟩
theorem has_node_Compare : H_node_Compare (bdOf bdsLz) := ⟨by kernel_rfl, has_cmp_Or_int, has_cmp_Compare_int⟩
theorem has_ledger_book_wrong : H_ledger_book_wrong (bdOf bdsLz) := ⟨by kernel_rfl, has_ledger_book_take, has_node_Compare, has_name_Right⟩
theorem has_ledger_book_free : H_ledger_book_free (bdOf bdsLz) := ⟨by kernel_rfl, has_ledger_book_take⟩
theorem has_ledger_May : H_ledger_May (bdOf bdsLz) := ⟨by kernel_rfl, has_geom_Right, has_slices_ContainsFunc_int_int, has_ledger_May_1, has_name_Compare, has_slices_ContainsFunc_api_Heap_api_Heap, has_ledger_book_wrong, has_ledger_book_free⟩
theorem has_ledger_line : H_ledger_line (bdOf bdsLz) := ⟨by kernel_rfl, has_digit_Show⟩
theorem has_ledger_text : H_ledger_text (bdOf bdsLz) := ⟨by kernel_rfl, has_ledger_line, has_digit_ShowHandle, has_strings_Join⟩
theorem has_ledger_Print : H_ledger_Print (bdOf bdsLz) := ⟨by kernel_rfl, has_ledger_May, has_ledger_text⟩
theorem has_ledger_numbers : H_ledger_numbers (bdOf bdsLz) := ⟨by kernel_rfl, has_digit_Read⟩
theorem has_ledger_reader_take : H_ledger_reader_take (bdOf bdsLz) := ⟨by kernel_rfl, has_strings_Join, has_ledger_numbers, has_digit_ReadHandle⟩
theorem has_ledger_Read : H_ledger_Read (bdOf bdsLz) := ⟨by kernel_rfl, has_ledger_Print, has_strings_Split, has_ledger_reader_take⟩
theorem has_law33_awake : H_law33_awake (bdOf bdsLz) := ⟨by kernel_rfl, has_ledger_Print, has_ledger_Read⟩
theorem has_ref12_Right : H_ref12_Right (bdOf bdsLz) := ⟨by kernel_rfl⟩
theorem has_ref08_Ahead : H_ref08_Ahead (bdOf bdsLz) := ⟨by kernel_rfl⟩
theorem has_ref26_heaps : H_ref26_heaps (bdOf bdsLz) := ⟨by kernel_rfl, has_ref04_Right, has_ref04_Compare, has_ref08_Ahead⟩
theorem has_ref26_Entries : H_ref26_Entries (bdOf bdsLz) := ⟨by kernel_rfl⟩
theorem has_ref10_Has : H_ref10_Has (bdOf bdsLz) := ⟨by kernel_rfl⟩
theorem has_ref26_May : H_ref26_May (bdOf bdsLz) := ⟨by kernel_rfl, has_ref12_Right, has_ref26_heaps, has_ref26_Entries, has_ref10_Has⟩
theorem has_ref08_Entries : H_ref08_Entries (bdOf bdsLz) := ⟨by kernel_rfl⟩
theorem has_ref26_Same : H_ref26_Same (bdOf bdsLz) := ⟨by kernel_rfl, has_ref01_Ints, has_ref08_Entries⟩
theorem has_ref33_words : H_ref33_words (bdOf bdsLz) := ⟨by kernel_rfl, has_ref03_Show⟩
theorem has_ref33_Print : H_ref33_Print (bdOf bdsLz) := ⟨by kernel_rfl, has_ref33_words, has_ref03_Handle⟩
theorem has_ref33_cut : H_ref33_cut (bdOf bdsLz) := ⟨by kernel_rfl⟩
theorem has_ref33_ints : H_ref33_ints (bdOf bdsLz) := ⟨by kernel_rfl, has_ref03_Read⟩
theorem has_ref33_Read : H_ref33_Read (bdOf bdsLz) := ⟨by kernel_rfl, has_ref33_cut, has_ref33_ints, has_ref03_ReadHandle, has_ref26_May, has_ref33_Print⟩
theorem has_law33_LedgerReads : H_law33_LedgerReads (bdOf bdsLz) := ⟨by kernel_rfl, has_law33_awake, has_ledger_Read, has_ref33_Read, has_ref26_Same, has_ledger_Print⟩
end Go.Gv
