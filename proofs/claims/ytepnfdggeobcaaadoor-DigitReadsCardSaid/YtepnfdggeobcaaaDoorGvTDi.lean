/- The ties of a seat: written by gvseat.py. -/
import Derived.Test.YtepnfdggeobcaaaDoorGvSeat
import Derived.Test.YtepnfdggeobcaaaDoorGvBDi
import Derived.Test.YtepnfdggeobcaaaDoorGvBNa4
import Derived.Test.YtepnfdggeobcaaaDoorProg
namespace Go.Gv
open Go.Proofs
set_option maxRecDepth 100000
noncomputable section
def cfgDi : Cfg := ⟨Tryd.prog, lkN [(10, 47), (31, 48), (32, 49), (33, 50), (34, 51), (11, 52), (35, 53), (45, 59), (46, 60), (48, 61), (47, 62), (49, 63), (56, 66), (57, 67), (58, 68), (59, 69), (60, 70), (61, 71), (66, 76), (68, 77), (67, 78), (70, 79), (71, 80), (75, 84), (69, 85), (77, 86), (79, 88), (83, 89)], has [10, 31, 32, 33, 34, 11, 35, 45, 46, 48, 47, 49, 56, 57, 58, 59, 60, 61, 66, 68, 67, 70, 71, 75, 69, 77, 79, 83], tyN [(9, 0)], lkN [(0, 1), (3, 2)], has [0, 3], lkE [(63, [.int .i64, .int .i64])]⟩
theorem t_law03_DigitShows : bodyM cfgDi ⟨[], .z, false⟩ Tryd.f10 = b_law03_DigitShows := by kernel_rfl
theorem t_law03_awake : bodyM cfgDi ⟨[1], .z, false⟩ Tryd.f31 = b_law03_awake := by kernel_rfl
theorem t_digit_Show : bodyM cfgDi ⟨[], .z, false⟩ Tryd.f32 = b_digit_Show := by kernel_rfl
theorem t_digit_Read : bodyM cfgDi ⟨[], (.n .z (.n .z (.n (.n .z (.j [] (.j [(8, .t)] .z .z) .z)) .z))), false⟩ Tryd.f33 = b_digit_Read := by kernel_rfl
theorem t_ref03_Show : bodyM cfgDi ⟨[], (.n .z (.n .z (.n .z (.n (.n .z (.j [(3, .v (.b (.str)))] (.j [(3, .v (.b (.str))), (4, .v (.b (.int .i64)))] (.n .z (.n (.n (.n .z (.n (.n .z (.j [(5, .v (.b (.int .i64)))] .z .z)) .z)) .z) .z)) .z) .z)) .z)))), false⟩ Tryd.f34 = b_ref03_Show := by kernel_rfl
theorem t_law03_DigitReads : bodyM cfgDi ⟨[], .z, false⟩ Tryd.f11 = b_law03_DigitReads := by kernel_rfl
theorem t_ref03_Read : bodyM cfgDi ⟨[], (.n .z (.n .z (.n .z (.n (.n .z (.j [(4, .v (.b (.int .i64)))] (.j [(4, .v (.b (.int .i64))), (5, .v (.b (.int .i64)))] (.n .z (.n (.n (.n .z (.j [(4, .v (.b (.int .i64)))] (.n .z (.n (.n .z (.j [(6, .v (.b (.int .i64)))] .z .z)) .z)) .z)) .z) .z)) .z) .z)) .z)))), false⟩ Tryd.f35 = b_ref03_Read := by kernel_rfl
theorem t_digit_ReadHandle : bodyM cfgDi ⟨[2], .z, false⟩ Tryd.f45 = b_digit_ReadHandle := by kernel_rfl
theorem t_strconv_Itoa : bodyM cfgDi ⟨[], .z, false⟩ Tryd.f46 = b_strconv_Itoa := by kernel_rfl
theorem t_digit_reader_number : bodyM cfgDi ⟨[], (.n .z (.n (.n (.n (.n .z (.j [(4, .v (.b (.bool)))] .z (.n .z (.j [(4, .v (.b (.bool)))] .z .z)))) .z) .z) .z)), false⟩ Tryd.f48 = b_digit_reader_number := by kernel_rfl
theorem t_digit_reader_takes : bodyM cfgDi ⟨[], .z, false⟩ Tryd.f47 = b_digit_reader_takes := by kernel_rfl
theorem t_strconv_FormatInt_ : bodyM cfgDi ⟨[], (.n .z (.n (.n .z (.n (.n .z (.n .z (.n .z (.n (.n .z (.j [(6, .v (.b (.int .u64)))] .z .z)) .z)))) .z)) .z)), false⟩ Tryd.f49 = b_strconv_FormatInt_ := by kernel_rfl
theorem t_strings_Cut : bodyM cfgDi ⟨[], .z, false⟩ Tryd.f56 = b_strings_Cut := by kernel_rfl
theorem t_strconv_Itoa_ : bodyM cfgDi ⟨[], .z, false⟩ Tryd.f57 = b_strconv_Itoa_ := by kernel_rfl
theorem t_strconv_small : bodyM cfgDi ⟨[], .z, false⟩ Tryd.f58 = b_strconv_small := by kernel_rfl
theorem t_strconv_numDigits : bodyM cfgDi ⟨[], .z, false⟩ Tryd.f59 = b_strconv_numDigits := by kernel_rfl
theorem t_strconv_formatBase10 : bodyM cfgDi ⟨[], (.n .z (.n (.j [(1, .v (.b (.int .u64))), (4, .v (.b (.int .i64)))] (.j [(1, .v (.b (.int .u64))), (4, .v (.b (.int .i64)))] .z .z) .z) (.n .z (.n (.n .z (.j [(4, .v (.b (.int .i64))), (12, .v (.b (.int .u32)))] .z .z)) (.n (.n .z (.j [(4, .v (.b (.int .i64))), (12, .v (.b (.int .u32)))] .z .z)) (.n .z (.j [] .z .z))))))), false⟩ Tryd.f60 = b_strconv_formatBase10 := by kernel_rfl
theorem t_strconv_formatBits : bodyM cfgDi ⟨[], (.n .z (.n (.n .z (.j [] .z .z)) (.n .z (.n .z (.n (.n .z (.j [(1, .v (.b (.int .u64)))] .z .z)) (.n (.n .z (.j [(13, .v (.b (.int .i64)))] (.n .z (.n .z (.n .z (.n (.j [(1, .v (.b (.int .u64))), (13, .v (.b (.int .i64)))] (.j [(1, .v (.b (.int .u64))), (13, .v (.b (.int .i64)))] .z .z) .z) .z)))) (.n .z (.n (.j [(1, .v (.b (.int .u64))), (13, .v (.b (.int .i64)))] (.j [(1, .v (.b (.int .u64))), (13, .v (.b (.int .i64)))] .z .z) .z) .z)))) (.n (.n .z (.j [(13, .v (.b (.int .i64)))] .z .z)) .z))))))), true⟩ Tryd.f61 = b_strconv_formatBits := by kernel_rfl
theorem t_stringslite_Cut : bodyM cfgDi ⟨[], .z, false⟩ Tryd.f66 = b_stringslite_Cut := by kernel_rfl
theorem t_bits_Len64 : bodyM cfgDi ⟨[], (.n .z (.n (.n .z (.j [(0, .v (.b (.int .u64))), (2, .v (.b (.int .i64)))] .z .z)) (.n (.n .z (.j [(0, .v (.b (.int .u64))), (2, .v (.b (.int .i64)))] .z .z)) (.n (.n .z (.j [(0, .v (.b (.int .u64))), (2, .v (.b (.int .i64)))] .z .z)) .z)))), false⟩ Tryd.f68 = b_bits_Len64 := by kernel_rfl
theorem t_strconv_log10Pow2 : bodyM cfgDi ⟨[], .z, false⟩ Tryd.f67 = b_strconv_log10Pow2 := by kernel_rfl
theorem t_strconv_isPowerOfTwo : bodyM cfgDi ⟨[], .z, false⟩ Tryd.f70 = b_strconv_isPowerOfTwo := by kernel_rfl
theorem t_bits_TrailingZeros : bodyM cfgDi ⟨[], .z, false⟩ Tryd.f71 = b_bits_TrailingZeros := by kernel_rfl
theorem t_stringslite_Index : bodyM cfgDi ⟨[], (.n .z (.n .z (.n .z (.n .z (.n .z (.n .z (.n .z (.n .z (.n (.j [] (.j [(8, .v (.b (.int .i64))), (10, .v (.b (.int .i64)))] (.n .z (.n (.n (.n .z (.j [(8, .v (.b (.int .i64)))] .z .z)) .z) .z)) .z) .z) .z))))))))), false⟩ Tryd.f75 = b_stringslite_Index := by kernel_rfl
theorem t_internal_strconv_bool2_int : bodyM cfgDi ⟨[], .z, false⟩ Tryd.f69 = b_internal_strconv_bool2_int := by kernel_rfl
def bDi_bits_TrailingZeros64 : Body := bodyM cfgDi ⟨[], .z, false⟩ Tryd.f77
theorem t_bits_TrailingZeros64 : bodyM cfgDi ⟨[], .z, false⟩ Tryd.f77 = bDi_bits_TrailingZeros64 := rfl
theorem t_stringslite_IndexByte : bodyM cfgDi ⟨[], .z, false⟩ Tryd.f79 = b_stringslite_IndexByte := by kernel_rfl
end
theorem cfgOkDi : CfgOk cfgDi := ⟨tyN_inj (by kernel_rfl), (fun t h => eqTy_guard (lkE_ok (by kernel_rfl) t h)), (fun t h _ _ _ _ _ _ w hx hy he => eqTy_run (lkE_ok (by kernel_rfl) t h) w hx hy he), tae_of (e := 105) (by kernel_rfl) (by kernel_rfl)⟩
theorem funOkDi : FunOk cfgDi := ⟨cfgOkDi, by kernel_rfl⟩
noncomputable def bdsDi : List (Nat × Body) := [(47, b_law03_DigitShows), (48, b_law03_awake), (49, b_digit_Show), (50, b_digit_Read), (51, b_ref03_Show), (52, b_law03_DigitReads), (53, b_ref03_Read), (59, b_digit_ReadHandle), (60, b_strconv_Itoa), (61, b_digit_reader_number), (62, b_digit_reader_takes), (63, b_strconv_FormatInt_), (66, b_strings_Cut), (67, b_strconv_Itoa_), (68, b_strconv_small), (69, b_strconv_numDigits), (70, b_strconv_formatBase10), (71, b_strconv_formatBits), (76, b_stringslite_Cut), (77, b_bits_Len64), (78, b_strconv_log10Pow2), (79, b_strconv_isPowerOfTwo), (80, b_bits_TrailingZeros), (84, b_stringslite_Index), (85, b_internal_strconv_bool2_int), (86, bDi_bits_TrailingZeros64), (88, b_stringslite_IndexByte), (89, nat_IndexByteString)]
theorem bodiesDi : ∀ n, OracleOK cfgDi (run (bdOf bdsDi) n) :=
  seat_ok (cov := [10, 31, 32, 33, 34, 11, 35, 45, 46, 48, 47, 49, 56, 57, 58, 59, 60, 61, 66, 68, 67, 70, 71, 75, 69, 77, 79, 83]) rfl (by kernel_rfl) (List.forall_mem_cons.2 ⟨BodyOK.of_tie funOkDi Tryd.func10 (by kernel_rfl) t_law03_DigitShows, List.forall_mem_cons.2 ⟨BodyOK.of_tie funOkDi Tryd.func31 (by kernel_rfl) t_law03_awake, List.forall_mem_cons.2 ⟨BodyOK.of_tie funOkDi Tryd.func32 (by kernel_rfl) t_digit_Show, List.forall_mem_cons.2 ⟨BodyOK.of_tie funOkDi Tryd.func33 (by kernel_rfl) t_digit_Read, List.forall_mem_cons.2 ⟨BodyOK.of_tie funOkDi Tryd.func34 (by kernel_rfl) t_ref03_Show, List.forall_mem_cons.2 ⟨BodyOK.of_tie funOkDi Tryd.func11 (by kernel_rfl) t_law03_DigitReads, List.forall_mem_cons.2 ⟨BodyOK.of_tie funOkDi Tryd.func35 (by kernel_rfl) t_ref03_Read, List.forall_mem_cons.2 ⟨BodyOK.of_tie funOkDi Tryd.func45 (by kernel_rfl) t_digit_ReadHandle, List.forall_mem_cons.2 ⟨BodyOK.of_tie funOkDi Tryd.func46 (by kernel_rfl) t_strconv_Itoa, List.forall_mem_cons.2 ⟨BodyOK.of_tie funOkDi Tryd.func48 (by kernel_rfl) t_digit_reader_number, List.forall_mem_cons.2 ⟨BodyOK.of_tie funOkDi Tryd.func47 (by kernel_rfl) t_digit_reader_takes, List.forall_mem_cons.2 ⟨BodyOK.of_tie funOkDi Tryd.func49 (by kernel_rfl) t_strconv_FormatInt_, List.forall_mem_cons.2 ⟨BodyOK.of_tie funOkDi Tryd.func56 (by kernel_rfl) t_strings_Cut, List.forall_mem_cons.2 ⟨BodyOK.of_tie funOkDi Tryd.func57 (by kernel_rfl) t_strconv_Itoa_, List.forall_mem_cons.2 ⟨BodyOK.of_tie funOkDi Tryd.func58 (by kernel_rfl) t_strconv_small, List.forall_mem_cons.2 ⟨BodyOK.of_tie funOkDi Tryd.func59 (by kernel_rfl) t_strconv_numDigits, List.forall_mem_cons.2 ⟨BodyOK.of_tie funOkDi Tryd.func60 (by kernel_rfl) t_strconv_formatBase10, List.forall_mem_cons.2 ⟨BodyOK.of_tie funOkDi Tryd.func61 (by kernel_rfl) t_strconv_formatBits, List.forall_mem_cons.2 ⟨BodyOK.of_tie funOkDi Tryd.func66 (by kernel_rfl) t_stringslite_Cut, List.forall_mem_cons.2 ⟨BodyOK.of_tie funOkDi Tryd.func68 (by kernel_rfl) t_bits_Len64, List.forall_mem_cons.2 ⟨BodyOK.of_tie funOkDi Tryd.func67 (by kernel_rfl) t_strconv_log10Pow2, List.forall_mem_cons.2 ⟨BodyOK.of_tie funOkDi Tryd.func70 (by kernel_rfl) t_strconv_isPowerOfTwo, List.forall_mem_cons.2 ⟨BodyOK.of_tie funOkDi Tryd.func71 (by kernel_rfl) t_bits_TrailingZeros, List.forall_mem_cons.2 ⟨BodyOK.of_tie funOkDi Tryd.func75 (by kernel_rfl) t_stringslite_Index, List.forall_mem_cons.2 ⟨BodyOK.of_tie funOkDi Tryd.func69 (by kernel_rfl) t_internal_strconv_bool2_int, List.forall_mem_cons.2 ⟨BodyOK.of_tie funOkDi Tryd.func77 (by kernel_rfl) t_bits_TrailingZeros64, List.forall_mem_cons.2 ⟨BodyOK.of_tie funOkDi Tryd.func79 (by kernel_rfl) t_stringslite_IndexByte, List.forall_mem_cons.2 ⟨nat_IndexByteString_ok Tryd.func83 (by kernel_rfl) (by kernel_rfl) (by kernel_rfl) (by kernel_rfl), (fun _ h => by cases h)⟩⟩⟩⟩⟩⟩⟩⟩⟩⟩⟩⟩⟩⟩⟩⟩⟩⟩⟩⟩⟩⟩⟩⟩⟩⟩⟩⟩)
theorem has_strconv_small : H_strconv_small (bdOf bdsDi) := ⟨by kernel_rfl⟩
theorem has_strconv_log10Pow2 : H_strconv_log10Pow2 (bdOf bdsDi) := ⟨by kernel_rfl⟩
theorem has_bits_Len64 : H_bits_Len64 (bdOf bdsDi) := ⟨by kernel_rfl⟩
theorem has_internal_strconv_bool2_int : H_internal_strconv_bool2_int (bdOf bdsDi) := ⟨by kernel_rfl⟩
theorem has_strconv_numDigits : H_strconv_numDigits (bdOf bdsDi) := ⟨by kernel_rfl, has_strconv_log10Pow2, has_bits_Len64, has_internal_strconv_bool2_int⟩
theorem has_strconv_formatBase10 : H_strconv_formatBase10 (bdOf bdsDi) := ⟨by kernel_rfl⟩
theorem has_strconv_isPowerOfTwo : H_strconv_isPowerOfTwo (bdOf bdsDi) := ⟨by kernel_rfl⟩
theorem has_bits_TrailingZeros64 : H_bits_TrailingZeros64 (bdOf bdsDi) := ⟨fun c n => by kernel_rfl⟩
theorem has_bits_TrailingZeros : H_bits_TrailingZeros (bdOf bdsDi) := ⟨by kernel_rfl, has_bits_TrailingZeros64⟩
theorem has_strconv_formatBits : H_strconv_formatBits (bdOf bdsDi) := ⟨by kernel_rfl, has_strconv_isPowerOfTwo, has_bits_TrailingZeros⟩
theorem has_strconv_FormatInt_ : H_strconv_FormatInt_ (bdOf bdsDi) := ⟨by kernel_rfl, has_strconv_small, has_strconv_numDigits, has_strconv_formatBase10, has_strconv_formatBits⟩
theorem has_strconv_Itoa_ : H_strconv_Itoa_ (bdOf bdsDi) := ⟨by kernel_rfl, has_strconv_FormatInt_⟩
theorem has_strconv_Itoa : H_strconv_Itoa (bdOf bdsDi) := ⟨by kernel_rfl, has_strconv_Itoa_⟩
theorem has_digit_Show : H_digit_Show (bdOf bdsDi) := ⟨by kernel_rfl, has_strconv_Itoa⟩
theorem has_digit_reader_takes : H_digit_reader_takes (bdOf bdsDi) := ⟨by kernel_rfl⟩
theorem has_digit_reader_number : H_digit_reader_number (bdOf bdsDi) := ⟨by kernel_rfl⟩
theorem has_digit_Read : H_digit_Read (bdOf bdsDi) := ⟨by kernel_rfl, has_digit_reader_takes, has_digit_reader_number⟩
theorem has_bytealg_IndexByteString : H_bytealg_IndexByteString (bdOf bdsDi) := ⟨by kernel_rfl⟩
theorem has_stringslite_IndexByte : H_stringslite_IndexByte (bdOf bdsDi) := ⟨by kernel_rfl, has_bytealg_IndexByteString⟩
theorem has_stringslite_Index : H_stringslite_Index (bdOf bdsDi) := ⟨by kernel_rfl, has_stringslite_IndexByte⟩
theorem has_stringslite_Cut : H_stringslite_Cut (bdOf bdsDi) := ⟨by kernel_rfl, has_stringslite_Index⟩
theorem has_strings_Cut : H_strings_Cut (bdOf bdsDi) := ⟨by kernel_rfl, has_stringslite_Cut⟩
theorem has_digit_ReadHandle : H_digit_ReadHandle (bdOf bdsDi) := ⟨by kernel_rfl, has_digit_Read, has_strings_Cut⟩
theorem has_law03_awake : H_law03_awake (bdOf bdsDi) := ⟨by kernel_rfl, has_digit_Show, has_digit_ReadHandle⟩
theorem has_ref03_Show : H_ref03_Show (bdOf bdsDi) := ⟨by kernel_rfl⟩
theorem has_law03_DigitShows : H_law03_DigitShows (bdOf bdsDi) := ⟨by kernel_rfl, has_law03_awake, has_digit_Show, has_digit_Read, has_ref03_Show⟩
theorem has_ref03_Read : H_ref03_Read (bdOf bdsDi) := ⟨by kernel_rfl, has_ref03_Show⟩
theorem has_law03_DigitReads : H_law03_DigitReads (bdOf bdsDi) := ⟨by kernel_rfl, has_law03_awake, has_digit_Read, has_ref03_Read⟩
end Go.Gv
