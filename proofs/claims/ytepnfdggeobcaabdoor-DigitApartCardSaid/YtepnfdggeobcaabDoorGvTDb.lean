/- The ties of a seat: written by gvseat.py. -/
import Derived.Test.YtepnfdggeobcaabDoorGvSeat
import Derived.Test.YtepnfdggeobcaabDoorGvBDb
import Derived.Test.YtepnfdggeobcaabDoorGvBDi
import Derived.Test.YtepnfdggeobcaabDoorGvBNa4
import Derived.Test.YtepnfdggeobcaabDoorProg
namespace Go.Gv
open Go.Proofs
set_option maxRecDepth 100000
noncomputable section
def cfgDb : Cfg := ⟨Tryd.prog, lkN [(8, 48), (11, 49), (12, 50), (26, 51), (22, 53), (9, 59), (23, 60), (25, 61), (24, 62), (46, 63), (21, 66), (36, 67), (60, 68), (61, 69), (62, 70), (63, 71), (35, 76), (70, 77), (69, 78), (72, 79), (73, 80), (45, 84), (71, 85), (76, 86), (56, 88), (67, 89), (3, 94), (10, 95), (4, 96), (5, 97), (13, 98), (14, 99)], has [8, 11, 12, 26, 22, 9, 23, 25, 24, 46, 21, 36, 60, 61, 62, 63, 35, 70, 69, 72, 73, 45, 71, 76, 56, 67, 3, 10, 4, 5, 13, 14], tyN [(9, 0)], lkN [(2, 1), (4, 2)], has [2, 4], lkE [(24, [.int .i64, .int .i64])]⟩
theorem t_law03_awake : bodyM cfgDb ⟨[1], .z, false⟩ Tryd.f8 = b_law03_awake := by kernel_rfl
theorem t_digit_Show : bodyM cfgDb ⟨[], .z, false⟩ Tryd.f11 = b_digit_Show := by kernel_rfl
theorem t_digit_Read : bodyM cfgDb ⟨[], (.n .z (.n .z (.n (.n .z (.j [] (.j [(8, .t)] .z .z) .z)) .z))), false⟩ Tryd.f12 = b_digit_Read := by kernel_rfl
theorem t_ref03_Show : bodyM cfgDb ⟨[], (.n .z (.n .z (.n .z (.n (.n .z (.j [(3, .v (.b (.str)))] (.j [(3, .v (.b (.str))), (4, .v (.b (.int .i64)))] (.n .z (.n (.n (.n .z (.n (.n .z (.j [(5, .v (.b (.int .i64)))] .z .z)) .z)) .z) .z)) .z) .z)) .z)))), false⟩ Tryd.f26 = b_ref03_Show := by kernel_rfl
theorem t_ref03_Read : bodyM cfgDb ⟨[], (.n .z (.n .z (.n .z (.n (.n .z (.j [(4, .v (.b (.int .i64)))] (.j [(4, .v (.b (.int .i64))), (5, .v (.b (.int .i64)))] (.n .z (.n (.n (.n .z (.j [(4, .v (.b (.int .i64)))] (.n .z (.n (.n .z (.j [(6, .v (.b (.int .i64)))] .z .z)) .z)) .z)) .z) .z)) .z) .z)) .z)))), false⟩ Tryd.f22 = b_ref03_Read := by kernel_rfl
theorem t_digit_ReadHandle : bodyM cfgDb ⟨[2], .z, false⟩ Tryd.f9 = b_digit_ReadHandle := by kernel_rfl
theorem t_strconv_Itoa : bodyM cfgDb ⟨[], .z, false⟩ Tryd.f23 = b_strconv_Itoa := by kernel_rfl
theorem t_digit_reader_number : bodyM cfgDb ⟨[], (.n .z (.n (.n (.n (.n .z (.j [(4, .v (.b (.bool)))] .z (.n .z (.j [(4, .v (.b (.bool)))] .z .z)))) .z) .z) .z)), false⟩ Tryd.f25 = b_digit_reader_number := by kernel_rfl
theorem t_digit_reader_takes : bodyM cfgDb ⟨[], .z, false⟩ Tryd.f24 = b_digit_reader_takes := by kernel_rfl
theorem t_strconv_FormatInt_ : bodyM cfgDb ⟨[], (.n .z (.n (.n .z (.n (.n .z (.n .z (.n .z (.n (.n .z (.j [(6, .v (.b (.int .u64)))] .z .z)) .z)))) .z)) .z)), false⟩ Tryd.f46 = b_strconv_FormatInt_ := by kernel_rfl
theorem t_strings_Cut : bodyM cfgDb ⟨[], .z, false⟩ Tryd.f21 = b_strings_Cut := by kernel_rfl
theorem t_strconv_Itoa_ : bodyM cfgDb ⟨[], .z, false⟩ Tryd.f36 = b_strconv_Itoa_ := by kernel_rfl
theorem t_strconv_small : bodyM cfgDb ⟨[], .z, false⟩ Tryd.f60 = b_strconv_small := by kernel_rfl
theorem t_strconv_numDigits : bodyM cfgDb ⟨[], .z, false⟩ Tryd.f61 = b_strconv_numDigits := by kernel_rfl
theorem t_strconv_formatBase10 : bodyM cfgDb ⟨[], (.n .z (.n (.j [(1, .v (.b (.int .u64))), (4, .v (.b (.int .i64)))] (.j [(1, .v (.b (.int .u64))), (4, .v (.b (.int .i64)))] .z .z) .z) (.n .z (.n (.n .z (.j [(4, .v (.b (.int .i64))), (12, .v (.b (.int .u32)))] .z .z)) (.n (.n .z (.j [(4, .v (.b (.int .i64))), (12, .v (.b (.int .u32)))] .z .z)) (.n .z (.j [] .z .z))))))), false⟩ Tryd.f62 = b_strconv_formatBase10 := by kernel_rfl
theorem t_strconv_formatBits : bodyM cfgDb ⟨[], (.n .z (.n (.n .z (.j [] .z .z)) (.n .z (.n .z (.n (.n .z (.j [(1, .v (.b (.int .u64)))] .z .z)) (.n (.n .z (.j [(13, .v (.b (.int .i64)))] (.n .z (.n .z (.n .z (.n (.j [(1, .v (.b (.int .u64))), (13, .v (.b (.int .i64)))] (.j [(1, .v (.b (.int .u64))), (13, .v (.b (.int .i64)))] .z .z) .z) .z)))) (.n .z (.n (.j [(1, .v (.b (.int .u64))), (13, .v (.b (.int .i64)))] (.j [(1, .v (.b (.int .u64))), (13, .v (.b (.int .i64)))] .z .z) .z) .z)))) (.n (.n .z (.j [(13, .v (.b (.int .i64)))] .z .z)) .z))))))), true⟩ Tryd.f63 = b_strconv_formatBits := by kernel_rfl
theorem t_stringslite_Cut : bodyM cfgDb ⟨[], .z, false⟩ Tryd.f35 = b_stringslite_Cut := by kernel_rfl
theorem t_bits_Len64 : bodyM cfgDb ⟨[], (.n .z (.n (.n .z (.j [(0, .v (.b (.int .u64))), (2, .v (.b (.int .i64)))] .z .z)) (.n (.n .z (.j [(0, .v (.b (.int .u64))), (2, .v (.b (.int .i64)))] .z .z)) (.n (.n .z (.j [(0, .v (.b (.int .u64))), (2, .v (.b (.int .i64)))] .z .z)) .z)))), false⟩ Tryd.f70 = b_bits_Len64 := by kernel_rfl
theorem t_strconv_log10Pow2 : bodyM cfgDb ⟨[], .z, false⟩ Tryd.f69 = b_strconv_log10Pow2 := by kernel_rfl
theorem t_strconv_isPowerOfTwo : bodyM cfgDb ⟨[], .z, false⟩ Tryd.f72 = b_strconv_isPowerOfTwo := by kernel_rfl
theorem t_bits_TrailingZeros : bodyM cfgDb ⟨[], .z, false⟩ Tryd.f73 = b_bits_TrailingZeros := by kernel_rfl
theorem t_stringslite_Index : bodyM cfgDb ⟨[], (.n .z (.n .z (.n .z (.n .z (.n .z (.n .z (.n .z (.n .z (.n (.j [] (.j [(8, .v (.b (.int .i64))), (10, .v (.b (.int .i64)))] (.n .z (.n (.n (.n .z (.j [(8, .v (.b (.int .i64)))] .z .z)) .z) .z)) .z) .z) .z))))))))), false⟩ Tryd.f45 = b_stringslite_Index := by kernel_rfl
theorem t_internal_strconv_bool2_int : bodyM cfgDb ⟨[], .z, false⟩ Tryd.f71 = b_internal_strconv_bool2_int := by kernel_rfl
def bDb_bits_TrailingZeros64 : Body := bodyM cfgDb ⟨[], .z, false⟩ Tryd.f76
theorem t_bits_TrailingZeros64 : bodyM cfgDb ⟨[], .z, false⟩ Tryd.f76 = bDb_bits_TrailingZeros64 := rfl
theorem t_stringslite_IndexByte : bodyM cfgDb ⟨[], .z, false⟩ Tryd.f56 = b_stringslite_IndexByte := by kernel_rfl
theorem t_law03_DigitTickets : bodyM cfgDb ⟨[3, 5], .z, false⟩ Tryd.f3 = b_law03_DigitTickets := by kernel_rfl
theorem t_ref03_ReadHandle : bodyM cfgDb ⟨[2, 9], (.n .z (.n (.n .z (.j [(2, .l [.int .i64, .int .i64])] (.j [(2, .l [.int .i64, .int .i64]), (4, .v (.b (.int .i64)))] .z .z) .z)) .z)), false⟩ Tryd.f10 = b_ref03_ReadHandle := by kernel_rfl
theorem t_law03_DigitApart : bodyM cfgDb ⟨[], .z, false⟩ Tryd.f4 = b_law03_DigitApart := by kernel_rfl
theorem t_law03_DigitHandles : bodyM cfgDb ⟨[1, 4], .z, false⟩ Tryd.f5 = b_law03_DigitHandles := by kernel_rfl
theorem t_digit_ShowHandle : bodyM cfgDb ⟨[1], .z, false⟩ Tryd.f13 = b_digit_ShowHandle := by kernel_rfl
theorem t_ref03_Handle : bodyM cfgDb ⟨[1], .z, false⟩ Tryd.f14 = b_ref03_Handle := by kernel_rfl
end
theorem cfgOkDb : CfgOk cfgDb := ⟨tyN_inj (by kernel_rfl), (fun t h => eqTy_guard (lkE_ok (by kernel_rfl) t h)), (fun t h _ _ _ _ _ _ w hx hy he => eqTy_run (lkE_ok (by kernel_rfl) t h) w hx hy he), tae_of (e := 115) (by kernel_rfl) (by kernel_rfl)⟩
theorem funOkDb : FunOk cfgDb := ⟨cfgOkDb, by kernel_rfl⟩
noncomputable def bdsDb : List (Nat × Body) := [(48, b_law03_awake), (49, b_digit_Show), (50, b_digit_Read), (51, b_ref03_Show), (53, b_ref03_Read), (59, b_digit_ReadHandle), (60, b_strconv_Itoa), (61, b_digit_reader_number), (62, b_digit_reader_takes), (63, b_strconv_FormatInt_), (66, b_strings_Cut), (67, b_strconv_Itoa_), (68, b_strconv_small), (69, b_strconv_numDigits), (70, b_strconv_formatBase10), (71, b_strconv_formatBits), (76, b_stringslite_Cut), (77, b_bits_Len64), (78, b_strconv_log10Pow2), (79, b_strconv_isPowerOfTwo), (80, b_bits_TrailingZeros), (84, b_stringslite_Index), (85, b_internal_strconv_bool2_int), (86, bDb_bits_TrailingZeros64), (88, b_stringslite_IndexByte), (89, nat_IndexByteString), (94, b_law03_DigitTickets), (95, b_ref03_ReadHandle), (96, b_law03_DigitApart), (97, b_law03_DigitHandles), (98, b_digit_ShowHandle), (99, b_ref03_Handle)]
theorem bodiesDb : ∀ n, OracleOK cfgDb (run (bdOf bdsDb) n) :=
  seat_ok (cov := [8, 11, 12, 26, 22, 9, 23, 25, 24, 46, 21, 36, 60, 61, 62, 63, 35, 70, 69, 72, 73, 45, 71, 76, 56, 67, 3, 10, 4, 5, 13, 14]) rfl (by kernel_rfl) (List.forall_mem_cons.2 ⟨BodyOK.of_tie funOkDb Tryd.func8 (by kernel_rfl) t_law03_awake, List.forall_mem_cons.2 ⟨BodyOK.of_tie funOkDb Tryd.func11 (by kernel_rfl) t_digit_Show, List.forall_mem_cons.2 ⟨BodyOK.of_tie funOkDb Tryd.func12 (by kernel_rfl) t_digit_Read, List.forall_mem_cons.2 ⟨BodyOK.of_tie funOkDb Tryd.func26 (by kernel_rfl) t_ref03_Show, List.forall_mem_cons.2 ⟨BodyOK.of_tie funOkDb Tryd.func22 (by kernel_rfl) t_ref03_Read, List.forall_mem_cons.2 ⟨BodyOK.of_tie funOkDb Tryd.func9 (by kernel_rfl) t_digit_ReadHandle, List.forall_mem_cons.2 ⟨BodyOK.of_tie funOkDb Tryd.func23 (by kernel_rfl) t_strconv_Itoa, List.forall_mem_cons.2 ⟨BodyOK.of_tie funOkDb Tryd.func25 (by kernel_rfl) t_digit_reader_number, List.forall_mem_cons.2 ⟨BodyOK.of_tie funOkDb Tryd.func24 (by kernel_rfl) t_digit_reader_takes, List.forall_mem_cons.2 ⟨BodyOK.of_tie funOkDb Tryd.func46 (by kernel_rfl) t_strconv_FormatInt_, List.forall_mem_cons.2 ⟨BodyOK.of_tie funOkDb Tryd.func21 (by kernel_rfl) t_strings_Cut, List.forall_mem_cons.2 ⟨BodyOK.of_tie funOkDb Tryd.func36 (by kernel_rfl) t_strconv_Itoa_, List.forall_mem_cons.2 ⟨BodyOK.of_tie funOkDb Tryd.func60 (by kernel_rfl) t_strconv_small, List.forall_mem_cons.2 ⟨BodyOK.of_tie funOkDb Tryd.func61 (by kernel_rfl) t_strconv_numDigits, List.forall_mem_cons.2 ⟨BodyOK.of_tie funOkDb Tryd.func62 (by kernel_rfl) t_strconv_formatBase10, List.forall_mem_cons.2 ⟨BodyOK.of_tie funOkDb Tryd.func63 (by kernel_rfl) t_strconv_formatBits, List.forall_mem_cons.2 ⟨BodyOK.of_tie funOkDb Tryd.func35 (by kernel_rfl) t_stringslite_Cut, List.forall_mem_cons.2 ⟨BodyOK.of_tie funOkDb Tryd.func70 (by kernel_rfl) t_bits_Len64, List.forall_mem_cons.2 ⟨BodyOK.of_tie funOkDb Tryd.func69 (by kernel_rfl) t_strconv_log10Pow2, List.forall_mem_cons.2 ⟨BodyOK.of_tie funOkDb Tryd.func72 (by kernel_rfl) t_strconv_isPowerOfTwo, List.forall_mem_cons.2 ⟨BodyOK.of_tie funOkDb Tryd.func73 (by kernel_rfl) t_bits_TrailingZeros, List.forall_mem_cons.2 ⟨BodyOK.of_tie funOkDb Tryd.func45 (by kernel_rfl) t_stringslite_Index, List.forall_mem_cons.2 ⟨BodyOK.of_tie funOkDb Tryd.func71 (by kernel_rfl) t_internal_strconv_bool2_int, List.forall_mem_cons.2 ⟨BodyOK.of_tie funOkDb Tryd.func76 (by kernel_rfl) t_bits_TrailingZeros64, List.forall_mem_cons.2 ⟨BodyOK.of_tie funOkDb Tryd.func56 (by kernel_rfl) t_stringslite_IndexByte, List.forall_mem_cons.2 ⟨nat_IndexByteString_ok Tryd.func67 (by kernel_rfl) (by kernel_rfl) (by kernel_rfl) (by kernel_rfl), List.forall_mem_cons.2 ⟨BodyOK.of_tie funOkDb Tryd.func3 (by kernel_rfl) t_law03_DigitTickets, List.forall_mem_cons.2 ⟨BodyOK.of_tie funOkDb Tryd.func10 (by kernel_rfl) t_ref03_ReadHandle, List.forall_mem_cons.2 ⟨BodyOK.of_tie funOkDb Tryd.func4 (by kernel_rfl) t_law03_DigitApart, List.forall_mem_cons.2 ⟨BodyOK.of_tie funOkDb Tryd.func5 (by kernel_rfl) t_law03_DigitHandles, List.forall_mem_cons.2 ⟨BodyOK.of_tie funOkDb Tryd.func13 (by kernel_rfl) t_digit_ShowHandle, List.forall_mem_cons.2 ⟨BodyOK.of_tie funOkDb Tryd.func14 (by kernel_rfl) t_ref03_Handle, (fun _ h => by cases h)⟩⟩⟩⟩⟩⟩⟩⟩⟩⟩⟩⟩⟩⟩⟩⟩⟩⟩⟩⟩⟩⟩⟩⟩⟩⟩⟩⟩⟩⟩⟩⟩)
theorem has_digit_reader_takes : H_digit_reader_takes (bdOf bdsDb) := ⟨by kernel_rfl⟩
theorem has_digit_reader_number : H_digit_reader_number (bdOf bdsDb) := ⟨by kernel_rfl⟩
theorem has_digit_Read : H_digit_Read (bdOf bdsDb) := ⟨by kernel_rfl, has_digit_reader_takes, has_digit_reader_number⟩
theorem has_bytealg_IndexByteString : H_bytealg_IndexByteString (bdOf bdsDb) := ⟨by kernel_rfl⟩
theorem has_stringslite_IndexByte : H_stringslite_IndexByte (bdOf bdsDb) := ⟨by kernel_rfl, has_bytealg_IndexByteString⟩
theorem has_stringslite_Index : H_stringslite_Index (bdOf bdsDb) := ⟨by kernel_rfl, has_stringslite_IndexByte⟩
theorem has_stringslite_Cut : H_stringslite_Cut (bdOf bdsDb) := ⟨by kernel_rfl, has_stringslite_Index⟩
theorem has_strings_Cut : H_strings_Cut (bdOf bdsDb) := ⟨by kernel_rfl, has_stringslite_Cut⟩
theorem has_digit_ReadHandle : H_digit_ReadHandle (bdOf bdsDb) := ⟨by kernel_rfl, has_digit_Read, has_strings_Cut⟩
theorem has_strconv_small : H_strconv_small (bdOf bdsDb) := ⟨by kernel_rfl⟩
theorem has_strconv_log10Pow2 : H_strconv_log10Pow2 (bdOf bdsDb) := ⟨by kernel_rfl⟩
theorem has_bits_Len64 : H_bits_Len64 (bdOf bdsDb) := ⟨by kernel_rfl⟩
theorem has_internal_strconv_bool2_int : H_internal_strconv_bool2_int (bdOf bdsDb) := ⟨by kernel_rfl⟩
theorem has_strconv_numDigits : H_strconv_numDigits (bdOf bdsDb) := ⟨by kernel_rfl, has_strconv_log10Pow2, has_bits_Len64, has_internal_strconv_bool2_int⟩
theorem has_strconv_formatBase10 : H_strconv_formatBase10 (bdOf bdsDb) := ⟨by kernel_rfl⟩
theorem has_strconv_isPowerOfTwo : H_strconv_isPowerOfTwo (bdOf bdsDb) := ⟨by kernel_rfl⟩
theorem has_bits_TrailingZeros64 : H_bits_TrailingZeros64 (bdOf bdsDb) := ⟨fun c n => by kernel_rfl⟩
theorem has_bits_TrailingZeros : H_bits_TrailingZeros (bdOf bdsDb) := ⟨by kernel_rfl, has_bits_TrailingZeros64⟩
theorem has_strconv_formatBits : H_strconv_formatBits (bdOf bdsDb) := ⟨by kernel_rfl, has_strconv_isPowerOfTwo, has_bits_TrailingZeros⟩
theorem has_strconv_FormatInt_ : H_strconv_FormatInt_ (bdOf bdsDb) := ⟨by kernel_rfl, has_strconv_small, has_strconv_numDigits, has_strconv_formatBase10, has_strconv_formatBits⟩
theorem has_strconv_Itoa_ : H_strconv_Itoa_ (bdOf bdsDb) := ⟨by kernel_rfl, has_strconv_FormatInt_⟩
theorem has_strconv_Itoa : H_strconv_Itoa (bdOf bdsDb) := ⟨by kernel_rfl, has_strconv_Itoa_⟩
theorem has_digit_Show : H_digit_Show (bdOf bdsDb) := ⟨by kernel_rfl, has_strconv_Itoa⟩
theorem has_law03_awake : H_law03_awake (bdOf bdsDb) := ⟨by kernel_rfl, has_digit_Show, has_digit_ReadHandle⟩
theorem has_ref03_Show : H_ref03_Show (bdOf bdsDb) := ⟨by kernel_rfl⟩
theorem has_ref03_Read : H_ref03_Read (bdOf bdsDb) := ⟨by kernel_rfl, has_ref03_Show⟩
theorem has_ref03_Handle : H_ref03_Handle (bdOf bdsDb) := ⟨by kernel_rfl, has_ref03_Show⟩
theorem has_ref03_ReadHandle : H_ref03_ReadHandle (bdOf bdsDb) := ⟨by kernel_rfl, has_ref03_Handle, has_ref03_Read⟩
theorem has_law03_DigitTickets : H_law03_DigitTickets (bdOf bdsDb) := ⟨by kernel_rfl, has_law03_awake, has_digit_ReadHandle, has_ref03_ReadHandle⟩
theorem has_law03_DigitApart : H_law03_DigitApart (bdOf bdsDb) := ⟨by kernel_rfl, has_law03_awake, has_digit_Show, has_digit_Read⟩
theorem has_digit_ShowHandle : H_digit_ShowHandle (bdOf bdsDb) := ⟨by kernel_rfl, has_digit_Show⟩
theorem has_law03_DigitHandles : H_law03_DigitHandles (bdOf bdsDb) := ⟨by kernel_rfl, has_law03_awake, has_digit_ReadHandle, has_digit_ShowHandle, has_ref03_Handle⟩
end Go.Gv
