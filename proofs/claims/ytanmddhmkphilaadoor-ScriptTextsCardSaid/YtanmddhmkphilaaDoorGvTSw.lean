/- The ties of a seat: written by gvseat.py. -/
import Derived.Test.YtanmddhmkphilaaDoorGvZRun
import Derived.Test.YtanmddhmkphilaaDoorGvBDb
import Derived.Test.YtanmddhmkphilaaDoorGvBDi
import Derived.Test.YtanmddhmkphilaaDoorGvBLaa
import Derived.Test.YtanmddhmkphilaaDoorGvBLj
import Derived.Test.YtanmddhmkphilaaDoorGvBLs
import Derived.Test.YtanmddhmkphilaaDoorGvBNa4
import Derived.Test.YtanmddhmkphilaaDoorGvBSp
import Derived.Test.YtanmddhmkphilaaDoorGvBSr
import Derived.Test.YtanmddhmkphilaaDoorGvBSw
import Derived.Test.YtanmddhmkphilaaDoorProg
namespace Go.Gv
open Go.Proofs
set_option maxRecDepth 100000
noncomputable section
def cfgSw : Cfg := ⟨Tryd.prog, lkN [(60, 2), (53, 3), (54, 4), (64, 6), (50, 8), (82, 9), (93, 10), (92, 11), (83, 12), (84, 13), (67, 14), (104, 15), (121, 19), (59, 43), (26, 45), (81, 49), (91, 50), (52, 51), (62, 53), (42, 58), (80, 59), (103, 60), (111, 61), (110, 62), (129, 63), (78, 65), (102, 66), (120, 67), (132, 68), (133, 69), (134, 70), (135, 71), (99, 73), (101, 74), (100, 75), (119, 76), (137, 77), (136, 78), (139, 79), (140, 80), (115, 81), (116, 82), (117, 83), (118, 84), (138, 85), (142, 86), (124, 87), (125, 88), (130, 89), (63, 95), (66, 98), (45, 99), (8, 101), (25, 102), (28, 103), (11, 104), (23, 106), (20, 107), (56, 108), (47, 109), (58, 110), (57, 111), (51, 112), (29, 113), (55, 114), (9, 121), (6, 123), (21, 124), (22, 125), (7, 126), (24, 127), (48, 128), (49, 129)], has [60, 53, 54, 64, 50, 82, 93, 92, 83, 84, 67, 104, 121, 59, 26, 81, 91, 52, 62, 42, 80, 103, 111, 110, 129, 78, 102, 120, 132, 133, 134, 135, 99, 101, 100, 119, 137, 136, 139, 140, 115, 116, 117, 118, 138, 142, 124, 125, 130, 63, 66, 45, 8, 25, 28, 11, 23, 20, 56, 47, 58, 57, 51, 29, 55, 9, 6, 21, 22, 7, 24, 48, 49], tyN [(9, 0)], lkN [(0, 0), (2, 4), (3, 5), (4, 1), (6, 2)], has [0, 2, 3, 4, 6], lkE [(31, [.int .i64, .int .i64])]⟩
theorem t_lex_Words : bodyM cfgSw ⟨[], (.n .z (.n .z (.n (.n .z (.j [(4, .v (.b (.int .i64)))] (.j [(4, .v (.b (.int .i64))), (14, .t)] (.n .z (.n .z (.n (.n .z (.n .z (.n .z (.j [(4, .v (.b (.int .i64)))] .z .z)))) .z))) .z) .z)) (.n .z (.n .z (.n (.n .z (.j [(7, .v (.b (.slice 1))), (8, .v (.b (.int .i64)))] (.j [(7, .v (.b (.slice 1))), (8, .v (.b (.int .i64))), (29, .t)] (.n .z (.n .z (.n (.n .z (.n (.n .z (.j [(7, .v (.b (.slice 1))), (8, .v (.b (.int .i64)))] .z (.n .z (.j [(7, .v (.b (.slice 1))), (8, .v (.b (.int .i64)))] .z .z)))) .z)) .z))) .z) .z)) (.n (.n .z (.j [(7, .v (.b (.slice 1)))] .z .z)) .z))))))), true⟩ Tryd.f60 = b_lex_Words := by kernel_rfl
theorem t_ref31_Words : bodyM cfgSw ⟨[], (.n .z (.n .z (.n (.n .z (.j [] (.j [(5, .v (.b (.int .i64)))] .z .z) .z)) (.n .z (.n .z (.n (.n .z (.j [(6, .v (.b (.slice 1)))] (.j [(6, .v (.b (.slice 1))), (7, .v (.b (.str))), (8, .v (.b (.int .i64)))] (.n .z (.n (.n (.n .z (.j [(6, .v (.b (.slice 1))), (7, .v (.b (.str)))] (.n (.n .z (.j [(6, .v (.b (.slice 1)))] .z .z)) .z) .z)) .z) .z)) .z) .z)) .z)))))), true⟩ Tryd.f53 = b_ref31_Words := by kernel_rfl
theorem t_ref31_Same : bodyM cfgSw ⟨[], (.n .z (.n .z (.n (.n .z (.j [] (.j [(5, .v (.b (.int .i64)))] .z .z) .z)) .z))), false⟩ Tryd.f54 = b_ref31_Same := by kernel_rfl
theorem t_ref31_Plain : bodyM cfgSw ⟨[], .z, false⟩ Tryd.f64 = b_ref31_Plain := by kernel_rfl
theorem t_lex_Join : bodyM cfgSw ⟨[], (.n .z (.n .z (.n (.n .z (.j [] (.j [(11, .v (.b (.int .i64)))] .z .z) .z)) .z))), false⟩ Tryd.f50 = b_lex_Join := by kernel_rfl
theorem t_lex_Plain : bodyM cfgSw ⟨[], (.n .z (.n (.n .z (.j [] (.j [(6, .t)] .z .z) .z)) .z)), false⟩ Tryd.f82 = b_lex_Plain := by kernel_rfl
theorem t_lex_blank : bodyM cfgSw ⟨[], .z, false⟩ Tryd.f93 = b_lex_blank := by kernel_rfl
theorem t_lex_wrong : bodyM cfgSw ⟨[], .z, false⟩ Tryd.f92 = b_lex_wrong := by kernel_rfl
theorem t_ref04_Runes : bodyM cfgSw ⟨[], (.n .z (.n .z (.n (.j [(3, .v (.b (.slice 1)))] (.j [(0, .v (.b (.str))), (3, .v (.b (.slice 1)))] .z .z) .z) .z))), true⟩ Tryd.f83 = b_ref04_Runes := by kernel_rfl
theorem t_ref31_Wrong : bodyM cfgSw ⟨[], .z, false⟩ Tryd.f84 = b_ref31_Wrong := by kernel_rfl
theorem t_ref04_First : bodyM cfgSw ⟨[], (.n .z (.n .z (.n .z (.n (.n (.n .z (.n .z (.n .z (.n .z (.n .z (.j [] (.n (.n .z (.j [(5, .v (.b (.int .u8)))] .z .z)) (.n (.n .z (.j [(6, .v (.b (.int .u8)))] .z .z)) .z)) (.n .z (.j [] (.n (.n .z (.j [(5, .v (.b (.int .u8)))] .z .z)) (.n (.n .z (.j [(6, .v (.b (.int .u8)))] .z .z)) .z)) .z)))))))) .z) .z)))), false⟩ Tryd.f104 = b_ref04_First := by kernel_rfl
theorem t_ref04_follows : bodyM cfgSw ⟨[], .z, false⟩ Tryd.f121 = b_ref04_follows := by kernel_rfl
theorem t_lex_Lines : bodyM cfgSw ⟨[], .z, true⟩ Tryd.f59 = b_lex_Lines := by kernel_rfl
theorem t_lex_Split : bodyM cfgSw ⟨[], (.n .z (.n .z (.n .z (.n (.n .z (.j [(5, .v (.b (.slice 1)))] (.j [(5, .v (.b (.slice 1))), (16, .v (.b (.int .i64)))] .z .z) .z)) .z)))), true⟩ Tryd.f26 = b_lex_Split := by kernel_rfl
theorem t_digit_Show : bodyM cfgSw ⟨[], .z, false⟩ Tryd.f81 = b_digit_Show := by kernel_rfl
theorem t_digit_Read : bodyM cfgSw ⟨[], (.n .z (.n .z (.n (.n .z (.j [] (.j [(8, .t)] .z .z) .z)) .z))), false⟩ Tryd.f91 = b_digit_Read := by kernel_rfl
theorem t_ref03_Show : bodyM cfgSw ⟨[], (.n .z (.n .z (.n .z (.n (.n .z (.j [(3, .v (.b (.str)))] (.j [(3, .v (.b (.str))), (4, .v (.b (.int .i64)))] (.n .z (.n (.n (.n .z (.n (.n .z (.j [(5, .v (.b (.int .i64)))] .z .z)) .z)) .z) .z)) .z) .z)) .z)))), false⟩ Tryd.f52 = b_ref03_Show := by kernel_rfl
theorem t_ref03_Read : bodyM cfgSw ⟨[], (.n .z (.n .z (.n .z (.n (.n .z (.j [(4, .v (.b (.int .i64)))] (.j [(4, .v (.b (.int .i64))), (5, .v (.b (.int .i64)))] (.n .z (.n (.n (.n .z (.j [(4, .v (.b (.int .i64)))] (.n .z (.n (.n .z (.j [(6, .v (.b (.int .i64)))] .z .z)) .z)) .z)) .z) .z)) .z) .z)) .z)))), false⟩ Tryd.f62 = b_ref03_Read := by kernel_rfl
theorem t_strings_Split : bodyM cfgSw ⟨[], .z, true⟩ Tryd.f42 = b_strings_Split := by kernel_rfl
theorem t_digit_ReadHandle : bodyM cfgSw ⟨[2], .z, false⟩ Tryd.f80 = b_digit_ReadHandle := by kernel_rfl
theorem t_strconv_Itoa : bodyM cfgSw ⟨[], .z, false⟩ Tryd.f103 = b_strconv_Itoa := by kernel_rfl
theorem t_digit_reader_number : bodyM cfgSw ⟨[], (.n .z (.n (.n (.n (.n .z (.j [(4, .v (.b (.bool)))] .z (.n .z (.j [(4, .v (.b (.bool)))] .z .z)))) .z) .z) .z)), false⟩ Tryd.f111 = b_digit_reader_number := by kernel_rfl
theorem t_digit_reader_takes : bodyM cfgSw ⟨[], .z, false⟩ Tryd.f110 = b_digit_reader_takes := by kernel_rfl
theorem t_strconv_FormatInt_ : bodyM cfgSw ⟨[], (.n .z (.n (.n .z (.n (.n .z (.n .z (.n .z (.n (.n .z (.j [(6, .v (.b (.int .u64)))] .z .z)) .z)))) .z)) .z)), false⟩ Tryd.f129 = b_strconv_FormatInt_ := by kernel_rfl
theorem t_strings_genSplit : bodyM cfgSw ⟨[], (.n .z (.n .z (.n .z (.n (.n .z (.j [(3, .v (.b (.int .i64)))] .z .z)) (.n .z (.n .z (.n .z (.n .z (.n (.j [(0, .v (.b (.str))), (10, .v (.b (.int .i64)))] (.j [(0, .v (.b (.str))), (10, .v (.b (.int .i64)))] .z .z) .z) .z))))))))), true⟩ Tryd.f78 = b_strings_genSplit := by kernel_rfl
theorem t_strings_Cut : bodyM cfgSw ⟨[], .z, false⟩ Tryd.f102 = b_strings_Cut := by kernel_rfl
theorem t_strconv_Itoa_ : bodyM cfgSw ⟨[], .z, false⟩ Tryd.f120 = b_strconv_Itoa_ := by kernel_rfl
theorem t_strconv_small : bodyM cfgSw ⟨[], .z, false⟩ Tryd.f132 = b_strconv_small := by kernel_rfl
theorem t_strconv_numDigits : bodyM cfgSw ⟨[], .z, false⟩ Tryd.f133 = b_strconv_numDigits := by kernel_rfl
theorem t_strconv_formatBase10 : bodyM cfgSw ⟨[], (.n .z (.n (.j [(1, .v (.b (.int .u64))), (4, .v (.b (.int .i64)))] (.j [(1, .v (.b (.int .u64))), (4, .v (.b (.int .i64)))] .z .z) .z) (.n .z (.n (.n .z (.j [(4, .v (.b (.int .i64))), (12, .v (.b (.int .u32)))] .z .z)) (.n (.n .z (.j [(4, .v (.b (.int .i64))), (12, .v (.b (.int .u32)))] .z .z)) (.n .z (.j [] .z .z))))))), false⟩ Tryd.f134 = b_strconv_formatBase10 := by kernel_rfl
theorem t_strconv_formatBits : bodyM cfgSw ⟨[], (.n .z (.n (.n .z (.j [] .z .z)) (.n .z (.n .z (.n (.n .z (.j [(1, .v (.b (.int .u64)))] .z .z)) (.n (.n .z (.j [(13, .v (.b (.int .i64)))] (.n .z (.n .z (.n .z (.n (.j [(1, .v (.b (.int .u64))), (13, .v (.b (.int .i64)))] (.j [(1, .v (.b (.int .u64))), (13, .v (.b (.int .i64)))] .z .z) .z) .z)))) (.n .z (.n (.j [(1, .v (.b (.int .u64))), (13, .v (.b (.int .i64)))] (.j [(1, .v (.b (.int .u64))), (13, .v (.b (.int .i64)))] .z .z) .z) .z)))) (.n (.n .z (.j [(13, .v (.b (.int .i64)))] .z .z)) .z))))))), true⟩ Tryd.f135 = b_strconv_formatBits := by kernel_rfl
theorem t_strings_explode : bodyM cfgSw ⟨[], (.n .z (.n .z (.n (.n .z (.j [(1, .v (.b (.int .i64)))] .z .z)) (.n .z (.n (.n .z (.j [(0, .v (.b (.str)))] (.j [(0, .v (.b (.str))), (7, .v (.b (.int .i64)))] .z .z) .z)) (.n (.n .z (.j [] .z .z)) .z)))))), true⟩ Tryd.f99 = b_strings_explode := by kernel_rfl
theorem t_strings_Index : bodyM cfgSw ⟨[], .z, false⟩ Tryd.f101 = b_strings_Index := by kernel_rfl
theorem t_strings_Count : bodyM cfgSw ⟨[], (.n .z (.n .z (.n .z (.n .z (.n (.j [(0, .v (.b (.str))), (5, .v (.b (.int .i64)))] .z .z) .z))))), false⟩ Tryd.f100 = b_strings_Count := by kernel_rfl
theorem t_stringslite_Cut : bodyM cfgSw ⟨[], .z, false⟩ Tryd.f119 = b_stringslite_Cut := by kernel_rfl
theorem t_bits_Len64 : bodyM cfgSw ⟨[], (.n .z (.n (.n .z (.j [(0, .v (.b (.int .u64))), (2, .v (.b (.int .i64)))] .z .z)) (.n (.n .z (.j [(0, .v (.b (.int .u64))), (2, .v (.b (.int .i64)))] .z .z)) (.n (.n .z (.j [(0, .v (.b (.int .u64))), (2, .v (.b (.int .i64)))] .z .z)) .z)))), false⟩ Tryd.f137 = b_bits_Len64 := by kernel_rfl
theorem t_strconv_log10Pow2 : bodyM cfgSw ⟨[], .z, false⟩ Tryd.f136 = b_strconv_log10Pow2 := by kernel_rfl
theorem t_strconv_isPowerOfTwo : bodyM cfgSw ⟨[], .z, false⟩ Tryd.f139 = b_strconv_isPowerOfTwo := by kernel_rfl
theorem t_bits_TrailingZeros : bodyM cfgSw ⟨[], .z, false⟩ Tryd.f140 = b_bits_TrailingZeros := by kernel_rfl
theorem t_utf8_RuneCountInString : bodyM cfgSw ⟨[], (.n .z (.n (.n .z (.j [(2, .v (.b (.int .i64)))] (.j [(2, .v (.b (.int .i64))), (4, .t)] .z .z) .z)) .z)), false⟩ Tryd.f115 = b_utf8_RuneCountInString := by kernel_rfl
theorem t_utf8_DecodeRuneInString : bodyM cfgSw ⟨[], .z, false⟩ Tryd.f116 = b_utf8_DecodeRuneInString := by kernel_rfl
theorem t_stringslite_Index : bodyM cfgSw ⟨[], (.n .z (.n .z (.n .z (.n .z (.n .z (.n .z (.n .z (.n .z (.n (.j [] (.j [(8, .v (.b (.int .i64))), (10, .v (.b (.int .i64)))] (.n .z (.n (.n (.n .z (.j [(8, .v (.b (.int .i64)))] .z .z)) .z) .z)) .z) .z) .z))))))))), false⟩ Tryd.f118 = b_stringslite_Index := by kernel_rfl
theorem t_internal_strconv_bool2_int : bodyM cfgSw ⟨[], .z, false⟩ Tryd.f138 = b_internal_strconv_bool2_int := by kernel_rfl
def bSw_bits_TrailingZeros64 : Body := bodyM cfgSw ⟨[], .z, false⟩ Tryd.f142
theorem t_bits_TrailingZeros64 : bodyM cfgSw ⟨[], .z, false⟩ Tryd.f142 = bSw_bits_TrailingZeros64 := rfl
theorem t_utf8_decodeRuneInStringSlow : bodyM cfgSw ⟨[9], .z, false⟩ Tryd.f124 = b_utf8_decodeRuneInStringSlow := by kernel_rfl
theorem t_stringslite_IndexByte : bodyM cfgSw ⟨[], .z, false⟩ Tryd.f125 = b_stringslite_IndexByte := by kernel_rfl
theorem t_ref03_ReadHandle : bodyM cfgSw ⟨[2, 9], (.n .z (.n (.n .z (.j [(2, .l [.int .i64, .int .i64])] (.j [(2, .l [.int .i64, .int .i64]), (4, .v (.b (.int .i64)))] .z .z) .z)) .z)), false⟩ Tryd.f63 = b_ref03_ReadHandle := by kernel_rfl
theorem t_digit_ShowHandle : bodyM cfgSw ⟨[1], .z, false⟩ Tryd.f66 = b_digit_ShowHandle := by kernel_rfl
theorem t_ref03_Handle : bodyM cfgSw ⟨[1], .z, false⟩ Tryd.f45 = b_ref03_Handle := by kernel_rfl
theorem t_law32_awake : bodyM cfgSw ⟨[1, 3], .z, false⟩ Tryd.f8 = b_law32_awake := by kernel_rfl
theorem t_script_Parse : bodyM cfgSw ⟨[2, 4], (.n .z (.n .z (.n .z (.n .z (.n .z (.n .z (.n (.n .z (.j [(4, .l [.str, .str, .int .i64])] .z .z)) (.n (.n .z (.j [(2, .l [.int .i64, .str, .str, .int .i64, .int .i64, .int .i64, .int .i64, .slice 1])] (.j [(2, .l [.int .i64, .str, .str, .int .i64, .int .i64, .int .i64, .int .i64, .slice 1]), (49, .t)] .z .z) .z)) .z)))))))), true⟩ Tryd.f25 = b_script_Parse := by kernel_rfl
theorem t_ref32_Parse : bodyM cfgSw ⟨[2, 7, 13], (.n .z (.n .z (.n .z (.n (.n .z (.j [(2, .l [.int .i64, .str, .str, .int .i64, .int .i64, .int .i64, .int .i64, .slice 1])] (.j [(2, .l [.int .i64, .str, .str, .int .i64, .int .i64, .int .i64, .int .i64, .slice 1]), (6, .v (.b (.int .i64)))] (.n .z (.n (.j [(2, .l [.int .i64, .str, .str, .int .i64, .int .i64, .int .i64, .int .i64, .slice 1])] (.n .z (.n .z (.n .z (.n (.n .z (.j [(8, .v (.b (.str)))] (.n .z (.n .z (.j [(8, .v (.b (.str)))] (.j [(8, .v (.b (.str))), (9, .v (.b (.int .i64)))] .z .z) .z))) .z)) (.n .z (.n (.n .z (.j [(2, .l [.int .i64, .str, .str, .int .i64, .int .i64, .int .i64, .int .i64, .slice 1]), (7, .l [.int .i64, .str, .str, .int .i64, .int .i64, .int .i64, .int .i64, .slice 1])] (.j [(2, .l [.int .i64, .str, .str, .int .i64, .int .i64, .int .i64, .int .i64, .slice 1]), (7, .l [.int .i64, .str, .str, .int .i64, .int .i64, .int .i64, .int .i64, .slice 1]), (10, .v (.b (.int .i64)))] (.n .z (.n (.n (.n .z (.n .z (.n .z (.n (.n .z (.n (.n .z (.j [(7, .l [.int .i64, .str, .str, .int .i64, .int .i64, .int .i64, .int .i64, .slice 1]), (15, .v (.b (.bool)))] .z (.n .z (.j [(7, .l [.int .i64, .str, .str, .int .i64, .int .i64, .int .i64, .int .i64, .slice 1]), (15, .v (.b (.bool)))] .z (.n .z (.j [(7, .l [.int .i64, .str, .str, .int .i64, .int .i64, .int .i64, .int .i64, .slice 1]), (15, .v (.b (.bool)))] .z (.n .z (.j [(7, .l [.int .i64, .str, .str, .int .i64, .int .i64, .int .i64, .int .i64, .slice 1]), (15, .v (.b (.bool)))] .z (.n .z (.j [(7, .l [.int .i64, .str, .str, .int .i64, .int .i64, .int .i64, .int .i64, .slice 1]), (15, .v (.b (.bool)))] .z (.n .z (.j [(7, .l [.int .i64, .str, .str, .int .i64, .int .i64, .int .i64, .int .i64, .slice 1])] .z .z)))))))))))) .z)) .z)))) .z) .z)) .z) .z)) .z)))))) .z) .z)) .z) .z)) .z)))), true⟩ Tryd.f28 = b_ref32_Parse := by kernel_rfl
theorem t_ref32_Same : bodyM cfgSw ⟨[2, 3], .z, false⟩ Tryd.f11 = b_ref32_Same := by kernel_rfl
theorem t_script_Same : bodyM cfgSw ⟨[2, 3], .z, false⟩ Tryd.f23 = b_script_Same := by kernel_rfl
theorem t_law32_Small : bodyM cfgSw ⟨[1], .z, false⟩ Tryd.f20 = b_law32_Small := by kernel_rfl
theorem t_script_Parse_1 : bodyM cfgSw ⟨[2], .z, false⟩ Tryd.f56 = b_script_Parse_1 := by kernel_rfl
theorem t_script_find : bodyM cfgSw ⟨[2, 5], (.n .z (.n (.n .z (.j [(2, .l [.str, .str, .int .i64])] (.j [(2, .l [.str, .str, .int .i64]), (7, .v (.b (.int .i64)))] .z .z) .z)) .z)), false⟩ Tryd.f47 = b_script_find := by kernel_rfl
theorem t_script_take : bodyM cfgSw ⟨[], (.n .z (.n (.n .z (.n (.n .z (.j [(6, .v (.b (.bool)))] .z (.n .z (.j [(6, .v (.b (.bool)))] .z (.n .z (.j [(6, .v (.b (.bool)))] .z (.n .z (.j [(6, .v (.b (.bool)))] .z (.n .z (.j [(6, .v (.b (.bool)))] .z (.n .z (.j [(6, .v (.b (.bool)))] .z .z)))))))))))) .z)) .z)), false⟩ Tryd.f58 = b_script_take := by kernel_rfl
theorem t_ref32_table : bodyM cfgSw ⟨[], .z, true⟩ Tryd.f51 = b_ref32_table := by kernel_rfl
theorem t_ref01_Ints : bodyM cfgSw ⟨[], (.n .z (.n .z (.n (.n .z (.j [] (.j [(5, .v (.b (.int .i64)))] .z .z) .z)) .z))), false⟩ Tryd.f29 = b_ref01_Ints := by kernel_rfl
theorem t_slices_Equal_int_int : bodyM cfgSw ⟨[], (.n .z (.n .z (.n (.n .z (.j [] (.j [(13, .v (.b (.int .i64)))] .z .z) .z)) .z))), false⟩ Tryd.f55 = b_slices_Equal_int_int := by kernel_rfl
theorem t_script_Read : bodyM cfgSw ⟨[11], (.n .z (.n .z (.n .z (.n .z (.n (.n .z (.j [(8, .v (.b (.slice 8)))] (.j [(8, .v (.b (.slice 8))), (25, .v (.b (.int .i64)))] .z .z) .z)) .z))))), true⟩ Tryd.f9 = b_script_Read := by kernel_rfl
theorem t_law32_ScriptShows : bodyM cfgSw ⟨[1], .z, false⟩ Tryd.f6 = b_law32_ScriptShows := by kernel_rfl
theorem t_script_Show : bodyM cfgSw ⟨[4, 10], (.n .z (.n .z (.n .z (.n .z (.n .z (.n (.n .z (.j [(6, .v (.b (.slice 1)))] (.j [(6, .v (.b (.slice 1))), (27, .t)] .z .z) .z)) .z)))))), false⟩ Tryd.f21 = b_script_Show := by kernel_rfl
theorem t_ref32_Line : bodyM cfgSw ⟨[1, 13], (.n .z (.n .z (.n .z (.n .z (.n (.n .z (.j [(6, .v (.b (.slice 1)))] .z .z)) (.n (.n .z (.j [(6, .v (.b (.slice 1)))] (.j [(6, .v (.b (.slice 1))), (7, .v (.b (.int .i64)))] (.n .z (.n (.j [(6, .v (.b (.slice 1)))] (.n .z (.j [(6, .v (.b (.slice 1)))] (.n .z (.j [(6, .v (.b (.slice 1)))] .z (.n .z (.j [(6, .v (.b (.slice 1)))] .z (.n .z (.j [(6, .v (.b (.slice 1)))] .z (.n .z (.j [(6, .v (.b (.slice 1)))] .z (.n .z (.j [(6, .v (.b (.slice 1)))] .z (.n .z (.j [(6, .v (.b (.slice 1)))] (.n .z (.j [(6, .v (.b (.slice 1)))] (.j [(6, .v (.b (.slice 1))), (8, .v (.b (.int .i64)))] .z .z) .z)) .z)))))))))))) .z)) .z) .z)) .z) .z)) (.n .z (.n (.n .z (.j [(9, .v (.b (.str)))] (.j [(9, .v (.b (.str))), (10, .v (.b (.int .i64)))] (.n .z (.n (.n (.n (.n .z (.j [(9, .v (.b (.str)))] .z .z)) .z) .z) .z)) .z) .z)) .z)))))))), false⟩ Tryd.f22 = b_ref32_Line := by kernel_rfl
theorem t_law32_ScriptTexts : bodyM cfgSw ⟨[], (.n .z (.n .z (.n .z (.n (.n .z (.j [(3, .v (.b (.str))), (4, .v (.b (.bool)))] (.j [(3, .v (.b (.str))), (4, .v (.b (.bool))), (5, .v (.b (.int .i64)))] .z .z) .z)) (.n .z (.n .z (.n .z (.n .z (.n (.n .z (.j [] (.j [(13, .v (.b (.int .i64)))] .z .z) .z)) .z))))))))), false⟩ Tryd.f7 = b_law32_ScriptTexts := by kernel_rfl
theorem t_script_Text : bodyM cfgSw ⟨[6], (.n .z (.n .z (.n (.n .z (.j [(4, .v (.b (.str)))] (.j [(4, .v (.b (.str))), (11, .v (.b (.int .i64)))] .z .z) .z)) .z))), false⟩ Tryd.f24 = b_script_Text := by kernel_rfl
theorem t_script_Show_1 : bodyM cfgSw ⟨[2], .z, false⟩ Tryd.f48 = b_script_Show_1 := by kernel_rfl
theorem t_script_give : bodyM cfgSw ⟨[2], (.n .z (.n .z (.n .z (.n (.n .z (.j [(5, .v (.b (.slice 1)))] (.j [(5, .v (.b (.slice 1))), (40, .v (.b (.int .i64)))] .z .z) .z)) .z)))), true⟩ Tryd.f49 = b_script_give := by kernel_rfl
end
noncomputable def ren_n156_Sw : Go.Shelf.Ren := ⟨fun | 156 => 67 | 165 => 87 | 166 => 88 | 169 => 90 | 240 => 108 | 241 => 109 | 276 => 122 | 277 => 123 | n => n, fun | 0 => 0 | 3 => 3 | 4 => 4 | 5 => 5 | 9 => 9 | 20 => 20 | 31 => 54 | 37 => 124 | 70 => 130 | 71 => 131 | 72 => 132 | 74 => 134 | 75 => 135 | 76 => 136 | 80 => 139 | 127 => 155 | 164 => 168 | n => n, fun | n => n⟩
theorem lays_n156_Sw : Lays.n156 Tryd.prog ren_n156_Sw where
  mixed := by kernel_rfl
  f156 := Tryd.func67.trans (congrArg some (by kernel_rfl))
  f165 := Tryd.func87.trans (congrArg some (by kernel_rfl))
  f166 := Tryd.func88.trans (congrArg some (by kernel_rfl))
  f169 := Tryd.func90.trans (congrArg some (by kernel_rfl))
  f240 := Tryd.func108.trans (congrArg some (by kernel_rfl))
  f241 := Tryd.func109.trans (congrArg some (by kernel_rfl))
  f276 := Tryd.func122.trans (congrArg some (by kernel_rfl))
  f277 := Tryd.func123.trans (congrArg some (by kernel_rfl))
  t0 := Tryd.underlying0
  a0 := Tryd.isAgg0
  z0 := Tryd.sizeOf0
  v0 := Tryd.zeroValue0
  t3 := Tryd.underlying3
  a3 := Tryd.isAgg3
  z3 := Tryd.sizeOf3
  v3 := Tryd.zeroValue3
  t4 := Tryd.underlying4
  a4 := Tryd.isAgg4
  z4 := Tryd.sizeOf4
  v4 := Tryd.zeroValue4
  t9 := Tryd.underlying9
  a9 := Tryd.isAgg9
  z9 := Tryd.sizeOf9
  v9 := Tryd.zeroValue9
  t20 := Tryd.underlying20
  a20 := Tryd.isAgg20
  z20 := Tryd.sizeOf20
  v20 := Tryd.zeroValue20
  t31 := Tryd.underlying54
  a31 := Tryd.isAgg54
  z31 := Tryd.sizeOf54
  v31 := Tryd.zeroValue54
  t37 := Tryd.underlying124
  a37 := Tryd.isAgg124
  z37 := Tryd.sizeOf124
  v37 := Tryd.zeroValue124
  t70 := Tryd.underlying130
  a70 := Tryd.isAgg130
  z70 := Tryd.sizeOf130
  v70 := Tryd.zeroValue130
  t72 := Tryd.underlying132
  a72 := Tryd.isAgg132
  z72 := Tryd.sizeOf132
  v72 := Tryd.zeroValue132
  t75 := Tryd.underlying135
  a75 := Tryd.isAgg135
  z75 := Tryd.sizeOf135
  v75 := Tryd.zeroValue135
  t76 := Tryd.underlying136
  a76 := Tryd.isAgg136
  z76 := Tryd.sizeOf136
  v76 := Tryd.zeroValue136
  t127 := Tryd.underlying155
  a127 := Tryd.isAgg155
  z127 := Tryd.sizeOf155
  v127 := Tryd.zeroValue155
  t164 := Tryd.underlying168
  a164 := Tryd.isAgg168
  z164 := Tryd.sizeOf168
  v164 := Tryd.zeroValue168
theorem extra_n156_Sw : Builder.Extra Tryd.prog ren_n156_Sw where
  sizeBuilder := by kernel_rfl
  liesBuilder := by kernel_rfl
  t5 := Tryd.underlying5
  a5 := Tryd.isAgg5
  z5 := Tryd.sizeOf5
  v5 := Tryd.zeroValue5
  infoByte := by kernel_rfl
  cellsByte := by kernel_rfl
  sizeByte := by kernel_rfl
  neB5 := by decide
noncomputable def ren_n105_Sw : Go.Shelf.Ren := ⟨fun | 99 => 86 | 105 => 57 | 165 => 87 | 166 => 88 | 169 => 90 | 170 => 89 | 206 => 107 | 212 => 85 | 240 => 108 | 241 => 109 | 263 => 105 | 264 => 106 | 276 => 122 | 277 => 123 | n => n, fun | 0 => 0 | 3 => 3 | 4 => 4 | 5 => 5 | 9 => 9 | 20 => 20 | 37 => 124 | 46 => 126 | 51 => 149 | 53 => 152 | 70 => 130 | 71 => 131 | 72 => 132 | 74 => 134 | 75 => 135 | 76 => 136 | 80 => 139 | 109 => 127 | 127 => 155 | 146 => 150 | 148 => 153 | 164 => 168 | n => n, fun | n => n⟩
theorem lays_n105_Sw : Lays.n105 Tryd.prog ren_n105_Sw where
  mixed := by kernel_rfl
  f99 := Tryd.func86.trans (congrArg some (by kernel_rfl))
  f105 := Tryd.func57.trans (congrArg some (by kernel_rfl))
  f165 := Tryd.func87.trans (congrArg some (by kernel_rfl))
  f166 := Tryd.func88.trans (congrArg some (by kernel_rfl))
  f169 := Tryd.func90.trans (congrArg some (by kernel_rfl))
  f170 := Tryd.func89.trans (congrArg some (by kernel_rfl))
  f206 := Tryd.func107.trans (congrArg some (by kernel_rfl))
  f212 := Tryd.func85.trans (congrArg some (by kernel_rfl))
  f240 := Tryd.func108.trans (congrArg some (by kernel_rfl))
  f241 := Tryd.func109.trans (congrArg some (by kernel_rfl))
  f263 := Tryd.func105.trans (congrArg some (by kernel_rfl))
  f264 := Tryd.func106.trans (congrArg some (by kernel_rfl))
  f276 := Tryd.func122.trans (congrArg some (by kernel_rfl))
  f277 := Tryd.func123.trans (congrArg some (by kernel_rfl))
  t0 := Tryd.underlying0
  a0 := Tryd.isAgg0
  z0 := Tryd.sizeOf0
  v0 := Tryd.zeroValue0
  t3 := Tryd.underlying3
  a3 := Tryd.isAgg3
  z3 := Tryd.sizeOf3
  v3 := Tryd.zeroValue3
  t4 := Tryd.underlying4
  a4 := Tryd.isAgg4
  z4 := Tryd.sizeOf4
  v4 := Tryd.zeroValue4
  t5 := Tryd.underlying5
  a5 := Tryd.isAgg5
  z5 := Tryd.sizeOf5
  v5 := Tryd.zeroValue5
  t9 := Tryd.underlying9
  a9 := Tryd.isAgg9
  z9 := Tryd.sizeOf9
  v9 := Tryd.zeroValue9
  t20 := Tryd.underlying20
  a20 := Tryd.isAgg20
  z20 := Tryd.sizeOf20
  v20 := Tryd.zeroValue20
  t37 := Tryd.underlying124
  a37 := Tryd.isAgg124
  z37 := Tryd.sizeOf124
  v37 := Tryd.zeroValue124
  t46 := Tryd.underlying126
  a46 := Tryd.isAgg126
  z46 := Tryd.sizeOf126
  v46 := Tryd.zeroValue126
  t51 := Tryd.underlying149
  a51 := Tryd.isAgg149
  z51 := Tryd.sizeOf149
  v51 := Tryd.zeroValue149
  t53 := Tryd.underlying152
  a53 := Tryd.isAgg152
  z53 := Tryd.sizeOf152
  v53 := Tryd.zeroValue152
  t70 := Tryd.underlying130
  a70 := Tryd.isAgg130
  z70 := Tryd.sizeOf130
  v70 := Tryd.zeroValue130
  t72 := Tryd.underlying132
  a72 := Tryd.isAgg132
  z72 := Tryd.sizeOf132
  v72 := Tryd.zeroValue132
  t75 := Tryd.underlying135
  a75 := Tryd.isAgg135
  z75 := Tryd.sizeOf135
  v75 := Tryd.zeroValue135
  t76 := Tryd.underlying136
  a76 := Tryd.isAgg136
  z76 := Tryd.sizeOf136
  v76 := Tryd.zeroValue136
  t109 := Tryd.underlying127
  a109 := Tryd.isAgg127
  z109 := Tryd.sizeOf127
  v109 := Tryd.zeroValue127
  t127 := Tryd.underlying155
  a127 := Tryd.isAgg155
  z127 := Tryd.sizeOf155
  v127 := Tryd.zeroValue155
  t146 := Tryd.underlying150
  a146 := Tryd.isAgg150
  z146 := Tryd.sizeOf150
  v146 := Tryd.zeroValue150
  t148 := Tryd.underlying153
  a148 := Tryd.isAgg153
  z148 := Tryd.sizeOf153
  v148 := Tryd.zeroValue153
  t164 := Tryd.underlying168
  a164 := Tryd.isAgg168
  z164 := Tryd.sizeOf168
  v164 := Tryd.zeroValue168
theorem extra_n105_Sw : Builder.Extra Tryd.prog ren_n105_Sw where
  sizeBuilder := by kernel_rfl
  liesBuilder := by kernel_rfl
  t5 := Tryd.underlying5
  a5 := Tryd.isAgg5
  z5 := Tryd.sizeOf5
  v5 := Tryd.zeroValue5
  infoByte := by kernel_rfl
  cellsByte := by kernel_rfl
  sizeByte := by kernel_rfl
  neB5 := by decide
theorem cfgOkSw : CfgOk cfgSw := ⟨tyN_inj (by kernel_rfl), (fun t h => eqTy_guard (lkE_ok (by kernel_rfl) t h)), (fun t h _ _ _ _ _ _ w hx hy he => eqTy_run (lkE_ok (by kernel_rfl) t h) w hx hy he), tae_of (e := 192) (by kernel_rfl) (by kernel_rfl)⟩
theorem funOkSw : FunOk cfgSw := ⟨cfgOkSw, by kernel_rfl⟩
noncomputable def bdsSw : List (Nat × Body) := [(2, b_lex_Words), (3, b_ref31_Words), (4, b_ref31_Same), (6, b_ref31_Plain), (8, b_lex_Join), (9, b_lex_Plain), (10, b_lex_blank), (11, b_lex_wrong), (12, b_ref04_Runes), (13, b_ref31_Wrong), (14, lib_Join), (15, b_ref04_First), (19, b_ref04_follows), (43, b_lex_Lines), (45, b_lex_Split), (49, b_digit_Show), (50, b_digit_Read), (51, b_ref03_Show), (53, b_ref03_Read), (58, b_strings_Split), (59, b_digit_ReadHandle), (60, b_strconv_Itoa), (61, b_digit_reader_number), (62, b_digit_reader_takes), (63, b_strconv_FormatInt_), (65, b_strings_genSplit), (66, b_strings_Cut), (67, b_strconv_Itoa_), (68, b_strconv_small), (69, b_strconv_numDigits), (70, b_strconv_formatBase10), (71, b_strconv_formatBits), (73, b_strings_explode), (74, b_strings_Index), (75, b_strings_Count), (76, b_stringslite_Cut), (77, b_bits_Len64), (78, b_strconv_log10Pow2), (79, b_strconv_isPowerOfTwo), (80, b_bits_TrailingZeros), (81, b_utf8_RuneCountInString), (82, b_utf8_DecodeRuneInString), (83, nat_CountString), (84, b_stringslite_Index), (85, b_internal_strconv_bool2_int), (86, bSw_bits_TrailingZeros64), (87, b_utf8_decodeRuneInStringSlow), (88, b_stringslite_IndexByte), (89, nat_IndexByteString), (95, b_ref03_ReadHandle), (98, b_digit_ShowHandle), (99, b_ref03_Handle), (101, b_law32_awake), (102, b_script_Parse), (103, b_ref32_Parse), (104, b_ref32_Same), (106, b_script_Same), (107, b_law32_Small), (108, b_script_Parse_1), (109, b_script_find), (110, b_script_take), (111, lib_Repeat), (112, b_ref32_table), (113, b_ref01_Ints), (114, b_slices_Equal_int_int), (121, b_script_Read), (123, b_law32_ScriptShows), (124, b_script_Show), (125, b_ref32_Line), (126, b_law32_ScriptTexts), (127, b_script_Text), (128, b_script_Show_1), (129, b_script_give)]
theorem bodiesSw : ∀ n, OracleOK cfgSw (run (bdOf bdsSw) n) :=
  seat_ok (cov := [60, 53, 54, 64, 50, 82, 93, 92, 83, 84, 67, 104, 121, 59, 26, 81, 91, 52, 62, 42, 80, 103, 111, 110, 129, 78, 102, 120, 132, 133, 134, 135, 99, 101, 100, 119, 137, 136, 139, 140, 115, 116, 117, 118, 138, 142, 124, 125, 130, 63, 66, 45, 8, 25, 28, 11, 23, 20, 56, 47, 58, 57, 51, 29, 55, 9, 6, 21, 22, 7, 24, 48, 49]) rfl (by kernel_rfl) (List.forall_mem_cons.2 ⟨BodyOK.of_tie funOkSw Tryd.func60 (by kernel_rfl) t_lex_Words, List.forall_mem_cons.2 ⟨BodyOK.of_tie funOkSw Tryd.func53 (by kernel_rfl) t_ref31_Words, List.forall_mem_cons.2 ⟨BodyOK.of_tie funOkSw Tryd.func54 (by kernel_rfl) t_ref31_Same, List.forall_mem_cons.2 ⟨BodyOK.of_tie funOkSw Tryd.func64 (by kernel_rfl) t_ref31_Plain, List.forall_mem_cons.2 ⟨BodyOK.of_tie funOkSw Tryd.func50 (by kernel_rfl) t_lex_Join, List.forall_mem_cons.2 ⟨BodyOK.of_tie funOkSw Tryd.func82 (by kernel_rfl) t_lex_Plain, List.forall_mem_cons.2 ⟨BodyOK.of_tie funOkSw Tryd.func93 (by kernel_rfl) t_lex_blank, List.forall_mem_cons.2 ⟨BodyOK.of_tie funOkSw Tryd.func92 (by kernel_rfl) t_lex_wrong, List.forall_mem_cons.2 ⟨BodyOK.of_tie funOkSw Tryd.func83 (by kernel_rfl) t_ref04_Runes, List.forall_mem_cons.2 ⟨BodyOK.of_tie funOkSw Tryd.func84 (by kernel_rfl) t_ref31_Wrong, List.forall_mem_cons.2 ⟨lib_Join_ok lays_n156_Sw extra_n156_Sw rfl Tryd.func67 (by kernel_rfl) (by kernel_rfl), List.forall_mem_cons.2 ⟨BodyOK.of_tie funOkSw Tryd.func104 (by kernel_rfl) t_ref04_First, List.forall_mem_cons.2 ⟨BodyOK.of_tie funOkSw Tryd.func121 (by kernel_rfl) t_ref04_follows, List.forall_mem_cons.2 ⟨BodyOK.of_tie funOkSw Tryd.func59 (by kernel_rfl) t_lex_Lines, List.forall_mem_cons.2 ⟨BodyOK.of_tie funOkSw Tryd.func26 (by kernel_rfl) t_lex_Split, List.forall_mem_cons.2 ⟨BodyOK.of_tie funOkSw Tryd.func81 (by kernel_rfl) t_digit_Show, List.forall_mem_cons.2 ⟨BodyOK.of_tie funOkSw Tryd.func91 (by kernel_rfl) t_digit_Read, List.forall_mem_cons.2 ⟨BodyOK.of_tie funOkSw Tryd.func52 (by kernel_rfl) t_ref03_Show, List.forall_mem_cons.2 ⟨BodyOK.of_tie funOkSw Tryd.func62 (by kernel_rfl) t_ref03_Read, List.forall_mem_cons.2 ⟨BodyOK.of_tie funOkSw Tryd.func42 (by kernel_rfl) t_strings_Split, List.forall_mem_cons.2 ⟨BodyOK.of_tie funOkSw Tryd.func80 (by kernel_rfl) t_digit_ReadHandle, List.forall_mem_cons.2 ⟨BodyOK.of_tie funOkSw Tryd.func103 (by kernel_rfl) t_strconv_Itoa, List.forall_mem_cons.2 ⟨BodyOK.of_tie funOkSw Tryd.func111 (by kernel_rfl) t_digit_reader_number, List.forall_mem_cons.2 ⟨BodyOK.of_tie funOkSw Tryd.func110 (by kernel_rfl) t_digit_reader_takes, List.forall_mem_cons.2 ⟨BodyOK.of_tie funOkSw Tryd.func129 (by kernel_rfl) t_strconv_FormatInt_, List.forall_mem_cons.2 ⟨BodyOK.of_tie funOkSw Tryd.func78 (by kernel_rfl) t_strings_genSplit, List.forall_mem_cons.2 ⟨BodyOK.of_tie funOkSw Tryd.func102 (by kernel_rfl) t_strings_Cut, List.forall_mem_cons.2 ⟨BodyOK.of_tie funOkSw Tryd.func120 (by kernel_rfl) t_strconv_Itoa_, List.forall_mem_cons.2 ⟨BodyOK.of_tie funOkSw Tryd.func132 (by kernel_rfl) t_strconv_small, List.forall_mem_cons.2 ⟨BodyOK.of_tie funOkSw Tryd.func133 (by kernel_rfl) t_strconv_numDigits, List.forall_mem_cons.2 ⟨BodyOK.of_tie funOkSw Tryd.func134 (by kernel_rfl) t_strconv_formatBase10, List.forall_mem_cons.2 ⟨BodyOK.of_tie funOkSw Tryd.func135 (by kernel_rfl) t_strconv_formatBits, List.forall_mem_cons.2 ⟨BodyOK.of_tie funOkSw Tryd.func99 (by kernel_rfl) t_strings_explode, List.forall_mem_cons.2 ⟨BodyOK.of_tie funOkSw Tryd.func101 (by kernel_rfl) t_strings_Index, List.forall_mem_cons.2 ⟨BodyOK.of_tie funOkSw Tryd.func100 (by kernel_rfl) t_strings_Count, List.forall_mem_cons.2 ⟨BodyOK.of_tie funOkSw Tryd.func119 (by kernel_rfl) t_stringslite_Cut, List.forall_mem_cons.2 ⟨BodyOK.of_tie funOkSw Tryd.func137 (by kernel_rfl) t_bits_Len64, List.forall_mem_cons.2 ⟨BodyOK.of_tie funOkSw Tryd.func136 (by kernel_rfl) t_strconv_log10Pow2, List.forall_mem_cons.2 ⟨BodyOK.of_tie funOkSw Tryd.func139 (by kernel_rfl) t_strconv_isPowerOfTwo, List.forall_mem_cons.2 ⟨BodyOK.of_tie funOkSw Tryd.func140 (by kernel_rfl) t_bits_TrailingZeros, List.forall_mem_cons.2 ⟨BodyOK.of_tie funOkSw Tryd.func115 (by kernel_rfl) t_utf8_RuneCountInString, List.forall_mem_cons.2 ⟨BodyOK.of_tie funOkSw Tryd.func116 (by kernel_rfl) t_utf8_DecodeRuneInString, List.forall_mem_cons.2 ⟨nat_CountString_ok Tryd.func117 (by kernel_rfl) (by kernel_rfl) (by kernel_rfl) (by kernel_rfl), List.forall_mem_cons.2 ⟨BodyOK.of_tie funOkSw Tryd.func118 (by kernel_rfl) t_stringslite_Index, List.forall_mem_cons.2 ⟨BodyOK.of_tie funOkSw Tryd.func138 (by kernel_rfl) t_internal_strconv_bool2_int, List.forall_mem_cons.2 ⟨BodyOK.of_tie funOkSw Tryd.func142 (by kernel_rfl) t_bits_TrailingZeros64, List.forall_mem_cons.2 ⟨BodyOK.of_tie funOkSw Tryd.func124 (by kernel_rfl) t_utf8_decodeRuneInStringSlow, List.forall_mem_cons.2 ⟨BodyOK.of_tie funOkSw Tryd.func125 (by kernel_rfl) t_stringslite_IndexByte, List.forall_mem_cons.2 ⟨nat_IndexByteString_ok Tryd.func130 (by kernel_rfl) (by kernel_rfl) (by kernel_rfl) (by kernel_rfl), List.forall_mem_cons.2 ⟨BodyOK.of_tie funOkSw Tryd.func63 (by kernel_rfl) t_ref03_ReadHandle, List.forall_mem_cons.2 ⟨BodyOK.of_tie funOkSw Tryd.func66 (by kernel_rfl) t_digit_ShowHandle, List.forall_mem_cons.2 ⟨BodyOK.of_tie funOkSw Tryd.func45 (by kernel_rfl) t_ref03_Handle, List.forall_mem_cons.2 ⟨BodyOK.of_tie funOkSw Tryd.func8 (by kernel_rfl) t_law32_awake, List.forall_mem_cons.2 ⟨BodyOK.of_tie funOkSw Tryd.func25 (by kernel_rfl) t_script_Parse, List.forall_mem_cons.2 ⟨BodyOK.of_tie funOkSw Tryd.func28 (by kernel_rfl) t_ref32_Parse, List.forall_mem_cons.2 ⟨BodyOK.of_tie funOkSw Tryd.func11 (by kernel_rfl) t_ref32_Same, List.forall_mem_cons.2 ⟨BodyOK.of_tie funOkSw Tryd.func23 (by kernel_rfl) t_script_Same, List.forall_mem_cons.2 ⟨BodyOK.of_tie funOkSw Tryd.func20 (by kernel_rfl) t_law32_Small, List.forall_mem_cons.2 ⟨BodyOK.of_tie funOkSw Tryd.func56 (by kernel_rfl) t_script_Parse_1, List.forall_mem_cons.2 ⟨BodyOK.of_tie funOkSw Tryd.func47 (by kernel_rfl) t_script_find, List.forall_mem_cons.2 ⟨BodyOK.of_tie funOkSw Tryd.func58 (by kernel_rfl) t_script_take, List.forall_mem_cons.2 ⟨lib_Repeat_ok lays_n105_Sw extra_n105_Sw rfl Tryd.func57 (by kernel_rfl) (by kernel_rfl), List.forall_mem_cons.2 ⟨BodyOK.of_tie funOkSw Tryd.func51 (by kernel_rfl) t_ref32_table, List.forall_mem_cons.2 ⟨BodyOK.of_tie funOkSw Tryd.func29 (by kernel_rfl) t_ref01_Ints, List.forall_mem_cons.2 ⟨BodyOK.of_tie funOkSw Tryd.func55 (by kernel_rfl) t_slices_Equal_int_int, List.forall_mem_cons.2 ⟨BodyOK.of_tie funOkSw Tryd.func9 (by kernel_rfl) t_script_Read, List.forall_mem_cons.2 ⟨BodyOK.of_tie funOkSw Tryd.func6 (by kernel_rfl) t_law32_ScriptShows, List.forall_mem_cons.2 ⟨BodyOK.of_tie funOkSw Tryd.func21 (by kernel_rfl) t_script_Show, List.forall_mem_cons.2 ⟨BodyOK.of_tie funOkSw Tryd.func22 (by kernel_rfl) t_ref32_Line, List.forall_mem_cons.2 ⟨BodyOK.of_tie funOkSw Tryd.func7 (by kernel_rfl) t_law32_ScriptTexts, List.forall_mem_cons.2 ⟨BodyOK.of_tie funOkSw Tryd.func24 (by kernel_rfl) t_script_Text, List.forall_mem_cons.2 ⟨BodyOK.of_tie funOkSw Tryd.func48 (by kernel_rfl) t_script_Show_1, List.forall_mem_cons.2 ⟨BodyOK.of_tie funOkSw Tryd.func49 (by kernel_rfl) t_script_give, (fun _ h => by cases h)⟩⟩⟩⟩⟩⟩⟩⟩⟩⟩⟩⟩⟩⟩⟩⟩⟩⟩⟩⟩⟩⟩⟩⟩⟩⟩⟩⟩⟩⟩⟩⟩⟩⟩⟩⟩⟩⟩⟩⟩⟩⟩⟩⟩⟩⟩⟩⟩⟩⟩⟩⟩⟩⟩⟩⟩⟩⟩⟩⟩⟩⟩⟩⟩⟩⟩⟩⟩⟩⟩⟩⟩⟩)
theorem has_lex_wrong : H_lex_wrong (bdOf bdsSw) := ⟨by kernel_rfl⟩
theorem has_lex_blank : H_lex_blank (bdOf bdsSw) := ⟨by kernel_rfl⟩
theorem has_lex_Words : H_lex_Words (bdOf bdsSw) := ⟨by kernel_rfl, has_lex_wrong, has_lex_blank⟩
theorem has_ref04_follows : H_ref04_follows (bdOf bdsSw) := ⟨by kernel_rfl⟩
theorem has_ref04_First : H_ref04_First (bdOf bdsSw) := ⟨by kernel_rfl, has_ref04_follows⟩
theorem has_ref04_Runes : H_ref04_Runes (bdOf bdsSw) := ⟨by kernel_rfl, has_ref04_First⟩
theorem has_ref31_Wrong : H_ref31_Wrong (bdOf bdsSw) := ⟨by kernel_rfl⟩
theorem has_ref31_Words : H_ref31_Words (bdOf bdsSw) := ⟨by kernel_rfl, has_ref04_Runes, has_ref31_Wrong⟩
theorem has_ref31_Same : H_ref31_Same (bdOf bdsSw) := ⟨by kernel_rfl⟩
theorem has_ref31_Plain : H_ref31_Plain (bdOf bdsSw) := ⟨by kernel_rfl, has_ref31_Words⟩
theorem has_strings_Join : H_strings_Join (bdOf bdsSw) := ⟨by kernel_rfl⟩
theorem has_lex_Plain : H_lex_Plain (bdOf bdsSw) := ⟨by kernel_rfl, has_lex_wrong, has_lex_blank⟩
theorem has_lex_Join : H_lex_Join (bdOf bdsSw) := ⟨by kernel_rfl, has_lex_Plain, has_strings_Join⟩
theorem has_utf8_RuneCountInString : H_utf8_RuneCountInString (bdOf bdsSw) := ⟨by kernel_rfl⟩
theorem has_utf8_decodeRuneInStringSlow : H_utf8_decodeRuneInStringSlow (bdOf bdsSw) := ⟨by kernel_rfl⟩
theorem has_utf8_DecodeRuneInString : H_utf8_DecodeRuneInString (bdOf bdsSw) := ⟨by kernel_rfl, has_utf8_decodeRuneInStringSlow⟩
theorem has_strings_explode : H_strings_explode (bdOf bdsSw) := ⟨by kernel_rfl, has_utf8_RuneCountInString, has_utf8_DecodeRuneInString⟩
theorem has_bytealg_IndexByteString : H_bytealg_IndexByteString (bdOf bdsSw) := ⟨by kernel_rfl⟩
theorem has_stringslite_IndexByte : H_stringslite_IndexByte (bdOf bdsSw) := ⟨by kernel_rfl, has_bytealg_IndexByteString⟩
theorem has_stringslite_Index : H_stringslite_Index (bdOf bdsSw) := ⟨by kernel_rfl, has_stringslite_IndexByte⟩
theorem has_strings_Index : H_strings_Index (bdOf bdsSw) := ⟨by kernel_rfl, has_stringslite_Index⟩
theorem has_bytealg_CountString : H_bytealg_CountString (bdOf bdsSw) := ⟨by kernel_rfl⟩
theorem has_strings_Count : H_strings_Count (bdOf bdsSw) := ⟨by kernel_rfl, has_strings_Index, has_utf8_RuneCountInString, has_bytealg_CountString⟩
theorem has_strings_genSplit : H_strings_genSplit (bdOf bdsSw) := ⟨by kernel_rfl, has_strings_explode, has_strings_Count, has_strings_Index⟩
theorem has_strings_Split : H_strings_Split (bdOf bdsSw) := ⟨by kernel_rfl, has_strings_genSplit⟩
theorem has_lex_Lines : H_lex_Lines (bdOf bdsSw) := ⟨by kernel_rfl, has_strings_Split⟩
theorem has_lex_Split : H_lex_Split (bdOf bdsSw) := ⟨by kernel_rfl, has_lex_Lines, has_lex_Words⟩
theorem has_strconv_small : H_strconv_small (bdOf bdsSw) := ⟨by kernel_rfl⟩
theorem has_strconv_log10Pow2 : H_strconv_log10Pow2 (bdOf bdsSw) := ⟨by kernel_rfl⟩
theorem has_bits_Len64 : H_bits_Len64 (bdOf bdsSw) := ⟨by kernel_rfl⟩
theorem has_internal_strconv_bool2_int : H_internal_strconv_bool2_int (bdOf bdsSw) := ⟨by kernel_rfl⟩
theorem has_strconv_numDigits : H_strconv_numDigits (bdOf bdsSw) := ⟨by kernel_rfl, has_strconv_log10Pow2, has_bits_Len64, has_internal_strconv_bool2_int⟩
theorem has_strconv_formatBase10 : H_strconv_formatBase10 (bdOf bdsSw) := ⟨by kernel_rfl⟩
theorem has_strconv_isPowerOfTwo : H_strconv_isPowerOfTwo (bdOf bdsSw) := ⟨by kernel_rfl⟩
theorem has_bits_TrailingZeros64 : H_bits_TrailingZeros64 (bdOf bdsSw) := ⟨fun c n => by kernel_rfl⟩
theorem has_bits_TrailingZeros : H_bits_TrailingZeros (bdOf bdsSw) := ⟨by kernel_rfl, has_bits_TrailingZeros64⟩
theorem has_strconv_formatBits : H_strconv_formatBits (bdOf bdsSw) := ⟨by kernel_rfl, has_strconv_isPowerOfTwo, has_bits_TrailingZeros⟩
theorem has_strconv_FormatInt_ : H_strconv_FormatInt_ (bdOf bdsSw) := ⟨by kernel_rfl, has_strconv_small, has_strconv_numDigits, has_strconv_formatBase10, has_strconv_formatBits⟩
theorem has_strconv_Itoa_ : H_strconv_Itoa_ (bdOf bdsSw) := ⟨by kernel_rfl, has_strconv_FormatInt_⟩
theorem has_strconv_Itoa : H_strconv_Itoa (bdOf bdsSw) := ⟨by kernel_rfl, has_strconv_Itoa_⟩
theorem has_digit_Show : H_digit_Show (bdOf bdsSw) := ⟨by kernel_rfl, has_strconv_Itoa⟩
theorem has_digit_reader_takes : H_digit_reader_takes (bdOf bdsSw) := ⟨by kernel_rfl⟩
theorem has_digit_reader_number : H_digit_reader_number (bdOf bdsSw) := ⟨by kernel_rfl⟩
theorem has_digit_Read : H_digit_Read (bdOf bdsSw) := ⟨by kernel_rfl, has_digit_reader_takes, has_digit_reader_number⟩
theorem has_ref03_Show : H_ref03_Show (bdOf bdsSw) := ⟨by kernel_rfl⟩
theorem has_ref03_Read : H_ref03_Read (bdOf bdsSw) := ⟨by kernel_rfl, has_ref03_Show⟩
theorem has_stringslite_Cut : H_stringslite_Cut (bdOf bdsSw) := ⟨by kernel_rfl, has_stringslite_Index⟩
theorem has_strings_Cut : H_strings_Cut (bdOf bdsSw) := ⟨by kernel_rfl, has_stringslite_Cut⟩
theorem has_digit_ReadHandle : H_digit_ReadHandle (bdOf bdsSw) := ⟨by kernel_rfl, has_digit_Read, has_strings_Cut⟩
theorem has_ref03_Handle : H_ref03_Handle (bdOf bdsSw) := ⟨by kernel_rfl, has_ref03_Show⟩
theorem has_ref03_ReadHandle : H_ref03_ReadHandle (bdOf bdsSw) := ⟨by kernel_rfl, has_ref03_Handle, has_ref03_Read⟩
theorem has_digit_ShowHandle : H_digit_ShowHandle (bdOf bdsSw) := ⟨by kernel_rfl, has_digit_Show⟩
theorem has_slices_Equal_int_int : H_slices_Equal_int_int (bdOf bdsSw) := ⟨by kernel_rfl⟩
theorem has_script_Same : H_script_Same (bdOf bdsSw) := ⟨by kernel_rfl, has_slices_Equal_int_int⟩
theorem has_script_find : H_script_find (bdOf bdsSw) := ⟨by kernel_rfl⟩
theorem has_script_Parse_1 : H_script_Parse_1 (bdOf bdsSw) := ⟨by kernel_rfl⟩
theorem has_strings_Repeat : H_strings_Repeat (bdOf bdsSw) := ⟨by kernel_rfl⟩
theorem has_script_take : H_script_take (bdOf bdsSw) := ⟨by kernel_rfl, has_digit_ReadHandle, has_digit_Read, has_lex_Plain⟩
theorem has_script_Parse : H_script_Parse (bdOf bdsSw) := ⟨by kernel_rfl, has_script_find, has_script_Parse_1, has_strings_Repeat, has_script_take⟩
theorem has_law32_awake : H_law32_awake (bdOf bdsSw) := ⟨by kernel_rfl, has_script_Parse, has_script_Same⟩
theorem has_ref32_table : H_ref32_table (bdOf bdsSw) := ⟨by kernel_rfl⟩
theorem has_ref32_Parse : H_ref32_Parse (bdOf bdsSw) := ⟨by kernel_rfl, has_ref03_ReadHandle, has_ref03_Read, has_ref32_table, has_ref31_Plain⟩
theorem has_ref01_Ints : H_ref01_Ints (bdOf bdsSw) := ⟨by kernel_rfl⟩
theorem has_ref32_Same : H_ref32_Same (bdOf bdsSw) := ⟨by kernel_rfl, has_ref01_Ints⟩
theorem has_law32_Small : H_law32_Small (bdOf bdsSw) := ⟨by kernel_rfl⟩
theorem has_script_Read : H_script_Read (bdOf bdsSw) := ⟨by kernel_rfl, has_script_Parse, has_lex_Split⟩
theorem has_script_Show_1 : H_script_Show_1 (bdOf bdsSw) := ⟨by kernel_rfl⟩
theorem has_script_give : H_script_give (bdOf bdsSw) := ⟨by kernel_rfl, has_digit_ShowHandle, has_digit_Show⟩
theorem has_script_Show : H_script_Show (bdOf bdsSw) := ⟨by kernel_rfl, has_script_Same, has_script_Parse, has_script_find, has_script_Show_1, has_script_give, has_lex_Join⟩
theorem has_ref32_Line : H_ref32_Line (bdOf bdsSw) := ⟨by kernel_rfl, has_ref32_Same, has_ref32_Parse, has_ref03_Handle, has_ref32_table, has_ref03_Show, has_ref31_Words, has_ref31_Same⟩
theorem has_law32_ScriptShows : H_law32_ScriptShows (bdOf bdsSw) := ⟨by kernel_rfl, has_law32_awake, has_script_Read, has_ref32_Same, has_law32_Small, has_script_Show, has_ref32_Line, has_script_Same⟩
theorem has_script_Text : H_script_Text (bdOf bdsSw) := ⟨by kernel_rfl, has_script_Show⟩
theorem has_law32_ScriptTexts : H_law32_ScriptTexts (bdOf bdsSw) := ⟨by kernel_rfl, has_law32_awake, has_script_Read, has_ref32_Same, has_law32_Small, has_ref32_Line, has_script_Text⟩
end Go.Gv
