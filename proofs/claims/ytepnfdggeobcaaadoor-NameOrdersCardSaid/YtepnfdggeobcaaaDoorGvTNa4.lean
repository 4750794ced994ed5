/- The ties of a seat: written by gvseat.py. -/
import Derived.Test.YtepnfdggeobcaaaDoorGvSeat
import Derived.Test.YtepnfdggeobcaaaDoorGvBLaa
import Derived.Test.YtepnfdggeobcaaaDoorGvBNa4
import Derived.Test.YtepnfdggeobcaaaDoorProg
namespace Go.Gv
open Go.Proofs
set_option maxRecDepth 100000
noncomputable section
def cfgNa4 : Cfg := ⟨Tryd.prog, lkN [(20, 12), (38, 15), (50, 19), (3, 24), (12, 25), (13, 26), (14, 27), (15, 28), (16, 29), (4, 30), (17, 31), (18, 32), (5, 33), (19, 34), (6, 35), (21, 36), (22, 37), (7, 38), (23, 39), (24, 40), (8, 41), (36, 54), (37, 55), (39, 56), (40, 57), (49, 63), (51, 64), (58, 68), (59, 69), (60, 70), (61, 71), (62, 72), (68, 77), (67, 78), (70, 79), (71, 80), (69, 85), (77, 86)], has [20, 38, 50, 3, 12, 13, 14, 15, 16, 4, 17, 18, 5, 19, 6, 21, 22, 7, 23, 24, 8, 36, 37, 39, 40, 49, 51, 58, 59, 60, 61, 62, 68, 67, 70, 71, 69, 77], tyN [(9, 0)], lkN [(0, 1), (3, 2)], has [0, 3], fun _ => false⟩
theorem t_ref04_Runes : bodyM cfgNa4 ⟨[], (.n .z (.n .z (.n (.j [(3, .v (.b (.slice 1)))] (.j [(0, .v (.b (.str))), (3, .v (.b (.slice 1)))] .z .z) .z) .z))), true⟩ Tryd.f20 = b_ref04_Runes := by kernel_rfl
theorem t_ref04_First : bodyM cfgNa4 ⟨[], (.n .z (.n .z (.n .z (.n (.n (.n .z (.n .z (.n .z (.n .z (.n .z (.j [] (.n (.n .z (.j [(5, .v (.b (.int .u8)))] .z .z)) (.n (.n .z (.j [(6, .v (.b (.int .u8)))] .z .z)) .z)) (.n .z (.j [] (.n (.n .z (.j [(5, .v (.b (.int .u8)))] .z .z)) (.n (.n .z (.j [(6, .v (.b (.int .u8)))] .z .z)) .z)) .z)))))))) .z) .z)))), false⟩ Tryd.f38 = b_ref04_First := by kernel_rfl
theorem t_ref04_follows : bodyM cfgNa4 ⟨[], .z, false⟩ Tryd.f50 = b_ref04_follows := by kernel_rfl
theorem t_law04_NameRights : bodyM cfgNa4 ⟨[], .z, false⟩ Tryd.f3 = b_law04_NameRights := by kernel_rfl
theorem t_law04_awake : bodyM cfgNa4 ⟨[], .z, false⟩ Tryd.f12 = b_law04_awake := by kernel_rfl
theorem t_name_Right : bodyM cfgNa4 ⟨[], (.n .z (.n .z (.n (.n .z (.j [(3, .v (.b (.int .i64)))] (.j [(3, .v (.b (.int .i64))), (7, .t)] .z .z) .z)) .z))), false⟩ Tryd.f13 = b_name_Right := by kernel_rfl
theorem t_ref04_Right : bodyM cfgNa4 ⟨[], (.n .z (.n .z (.n .z (.n (.n .z (.j [(4, .v (.b (.bool)))] (.j [(4, .v (.b (.bool))), (5, .v (.b (.int .i64)))] .z .z) .z)) .z)))), false⟩ Tryd.f14 = b_ref04_Right := by kernel_rfl
theorem t_name_Of : bodyM cfgNa4 ⟨[4], (.n .z (.n (.n .z (.j [] (.j [(6, .v (.b (.int .i64)))] .z .z) .z)) .z)), false⟩ Tryd.f15 = b_name_Of := by kernel_rfl
theorem t_ref04_Of : bodyM cfgNa4 ⟨[], .z, false⟩ Tryd.f16 = b_ref04_Of := by kernel_rfl
theorem t_law04_NameShows : bodyM cfgNa4 ⟨[], .z, false⟩ Tryd.f4 = b_law04_NameShows := by kernel_rfl
theorem t_name_Show : bodyM cfgNa4 ⟨[], (.n .z (.n .z (.n (.n .z (.j [(3, .v (.b (.str)))] (.j [(3, .v (.b (.str))), (7, .t)] (.n .z (.n .z (.n (.n .z (.n .z (.j [(3, .v (.b (.str)))] .z .z))) .z))) .z) .z)) .z))), false⟩ Tryd.f17 = b_name_Show := by kernel_rfl
theorem t_ref04_Show : bodyM cfgNa4 ⟨[], (.n .z (.n .z (.n (.j [(3, .v (.b (.str)))] (.j [(0, .v (.b (.str))), (3, .v (.b (.str)))] (.n .z (.n (.n .z (.n (.n .z (.j [(3, .v (.b (.str)))] .z .z)) .z)) .z)) .z) .z) .z))), false⟩ Tryd.f18 = b_ref04_Show := by kernel_rfl
theorem t_law04_NameRunes : bodyM cfgNa4 ⟨[], (.n .z (.n .z (.n .z (.n .z (.n (.n .z (.j [] (.j [(5, .v (.b (.int .i64)))] .z .z) .z)) .z))))), false⟩ Tryd.f5 = b_law04_NameRunes := by kernel_rfl
theorem t_name_Runes : bodyM cfgNa4 ⟨[], (.n .z (.n .z (.n (.n .z (.j [(3, .v (.b (.slice 1)))] (.j [(3, .v (.b (.slice 1))), (7, .t)] .z .z) .z)) .z))), true⟩ Tryd.f19 = b_name_Runes := by kernel_rfl
theorem t_law04_NameCuts : bodyM cfgNa4 ⟨[], .z, false⟩ Tryd.f6 = b_law04_NameCuts := by kernel_rfl
theorem t_name_Cut : bodyM cfgNa4 ⟨[], (.n .z (.n (.n .z (.j [(1, .v (.b (.int .i64)))] (.j [(1, .v (.b (.int .i64))), (7, .t)] .z .z) .z)) .z)), false⟩ Tryd.f21 = b_name_Cut := by kernel_rfl
theorem t_ref04_Cut : bodyM cfgNa4 ⟨[], (.n .z (.n .z (.n (.j [(5, .v (.b (.str)))] (.j [(0, .v (.b (.str))), (1, .v (.b (.int .i64))), (5, .v (.b (.str)))] .z .z) .z) .z))), false⟩ Tryd.f22 = b_ref04_Cut := by kernel_rfl
theorem t_law04_NameOrders : bodyM cfgNa4 ⟨[], .z, false⟩ Tryd.f7 = b_law04_NameOrders := by kernel_rfl
theorem t_name_Compare : bodyM cfgNa4 ⟨[], .z, false⟩ Tryd.f23 = b_name_Compare := by kernel_rfl
theorem t_ref04_Compare : bodyM cfgNa4 ⟨[], (.n .z (.n .z (.n (.n .z (.j [] (.j [(7, .v (.b (.int .i64)))] .z .z) .z)) .z))), false⟩ Tryd.f24 = b_ref04_Compare := by kernel_rfl
theorem t_law04_NameBetween : bodyM cfgNa4 ⟨[], .z, false⟩ Tryd.f8 = b_law04_NameBetween := by kernel_rfl
theorem t_name_spans : bodyM cfgNa4 ⟨[0], .z, false⟩ Tryd.f36 = b_name_spans := by kernel_rfl
theorem t_strconv_FormatInt : bodyM cfgNa4 ⟨[], .z, false⟩ Tryd.f37 = b_strconv_FormatInt := by kernel_rfl
theorem t_ref04_hex : bodyM cfgNa4 ⟨[], .z, false⟩ Tryd.f39 = b_ref04_hex := by kernel_rfl
theorem t_slices_Compare_rune_rune : bodyM cfgNa4 ⟨[], (.n .z (.n (.n .z (.j [] (.j [(11, .v (.b (.int .i64)))] .z .z) .z)) .z)), false⟩ Tryd.f40 = b_slices_Compare_rune_rune := by kernel_rfl
theorem t_strconv_FormatInt_ : bodyM cfgNa4 ⟨[], (.n .z (.n (.n .z (.n (.n .z (.n .z (.n .z (.n (.n .z (.j [(6, .v (.b (.int .u64)))] .z .z)) .z)))) .z)) .z)), false⟩ Tryd.f49 = b_strconv_FormatInt_ := by kernel_rfl
theorem t_cmp_Compare_rune : bodyM cfgNa4 ⟨[], .z, false⟩ Tryd.f51 = b_cmp_Compare_rune := by kernel_rfl
theorem t_strconv_small : bodyM cfgNa4 ⟨[], .z, false⟩ Tryd.f58 = b_strconv_small := by kernel_rfl
theorem t_strconv_numDigits : bodyM cfgNa4 ⟨[], .z, false⟩ Tryd.f59 = b_strconv_numDigits := by kernel_rfl
theorem t_strconv_formatBase10 : bodyM cfgNa4 ⟨[], (.n .z (.n (.j [(1, .v (.b (.int .u64))), (4, .v (.b (.int .i64)))] (.j [(1, .v (.b (.int .u64))), (4, .v (.b (.int .i64)))] .z .z) .z) (.n .z (.n (.n .z (.j [(4, .v (.b (.int .i64))), (12, .v (.b (.int .u32)))] .z .z)) (.n (.n .z (.j [(4, .v (.b (.int .i64))), (12, .v (.b (.int .u32)))] .z .z)) (.n .z (.j [] .z .z))))))), false⟩ Tryd.f60 = b_strconv_formatBase10 := by kernel_rfl
theorem t_strconv_formatBits : bodyM cfgNa4 ⟨[], (.n .z (.n (.n .z (.j [] .z .z)) (.n .z (.n .z (.n (.n .z (.j [(1, .v (.b (.int .u64)))] .z .z)) (.n (.n .z (.j [(13, .v (.b (.int .i64)))] (.n .z (.n .z (.n .z (.n (.j [(1, .v (.b (.int .u64))), (13, .v (.b (.int .i64)))] (.j [(1, .v (.b (.int .u64))), (13, .v (.b (.int .i64)))] .z .z) .z) .z)))) (.n .z (.n (.j [(1, .v (.b (.int .u64))), (13, .v (.b (.int .i64)))] (.j [(1, .v (.b (.int .u64))), (13, .v (.b (.int .i64)))] .z .z) .z) .z)))) (.n (.n .z (.j [(13, .v (.b (.int .i64)))] .z .z)) .z))))))), true⟩ Tryd.f61 = b_strconv_formatBits := by kernel_rfl
theorem t_cmp_isNaN_rune : bodyM cfgNa4 ⟨[], .z, false⟩ Tryd.f62 = b_cmp_isNaN_rune := by kernel_rfl
theorem t_bits_Len64 : bodyM cfgNa4 ⟨[], (.n .z (.n (.n .z (.j [(0, .v (.b (.int .u64))), (2, .v (.b (.int .i64)))] .z .z)) (.n (.n .z (.j [(0, .v (.b (.int .u64))), (2, .v (.b (.int .i64)))] .z .z)) (.n (.n .z (.j [(0, .v (.b (.int .u64))), (2, .v (.b (.int .i64)))] .z .z)) .z)))), false⟩ Tryd.f68 = b_bits_Len64 := by kernel_rfl
theorem t_strconv_log10Pow2 : bodyM cfgNa4 ⟨[], .z, false⟩ Tryd.f67 = b_strconv_log10Pow2 := by kernel_rfl
theorem t_strconv_isPowerOfTwo : bodyM cfgNa4 ⟨[], .z, false⟩ Tryd.f70 = b_strconv_isPowerOfTwo := by kernel_rfl
theorem t_bits_TrailingZeros : bodyM cfgNa4 ⟨[], .z, false⟩ Tryd.f71 = b_bits_TrailingZeros := by kernel_rfl
theorem t_internal_strconv_bool2_int : bodyM cfgNa4 ⟨[], .z, false⟩ Tryd.f69 = b_internal_strconv_bool2_int := by kernel_rfl
def bNa4_bits_TrailingZeros64 : Body := bodyM cfgNa4 ⟨[], .z, false⟩ Tryd.f77
theorem t_bits_TrailingZeros64 : bodyM cfgNa4 ⟨[], .z, false⟩ Tryd.f77 = bNa4_bits_TrailingZeros64 := rfl
end
theorem cfgOkNa4 : CfgOk cfgNa4 := ⟨tyN_inj (by kernel_rfl), (fun _ h => by cases h), (fun _ h => by cases h), tae_of (e := 105) (by kernel_rfl) (by kernel_rfl)⟩
theorem funOkNa4 : FunOk cfgNa4 := ⟨cfgOkNa4, by kernel_rfl⟩
noncomputable def bdsNa4 : List (Nat × Body) := [(12, b_ref04_Runes), (15, b_ref04_First), (19, b_ref04_follows), (24, b_law04_NameRights), (25, b_law04_awake), (26, b_name_Right), (27, b_ref04_Right), (28, b_name_Of), (29, b_ref04_Of), (30, b_law04_NameShows), (31, b_name_Show), (32, b_ref04_Show), (33, b_law04_NameRunes), (34, b_name_Runes), (35, b_law04_NameCuts), (36, b_name_Cut), (37, b_ref04_Cut), (38, b_law04_NameOrders), (39, b_name_Compare), (40, b_ref04_Compare), (41, b_law04_NameBetween), (54, b_name_spans), (55, b_strconv_FormatInt), (56, b_ref04_hex), (57, b_slices_Compare_rune_rune), (63, b_strconv_FormatInt_), (64, b_cmp_Compare_rune), (68, b_strconv_small), (69, b_strconv_numDigits), (70, b_strconv_formatBase10), (71, b_strconv_formatBits), (72, b_cmp_isNaN_rune), (77, b_bits_Len64), (78, b_strconv_log10Pow2), (79, b_strconv_isPowerOfTwo), (80, b_bits_TrailingZeros), (85, b_internal_strconv_bool2_int), (86, bNa4_bits_TrailingZeros64)]
theorem bodiesNa4 : ∀ n, OracleOK cfgNa4 (run (bdOf bdsNa4) n) :=
  seat_ok (cov := [20, 38, 50, 3, 12, 13, 14, 15, 16, 4, 17, 18, 5, 19, 6, 21, 22, 7, 23, 24, 8, 36, 37, 39, 40, 49, 51, 58, 59, 60, 61, 62, 68, 67, 70, 71, 69, 77]) rfl (by kernel_rfl) (List.forall_mem_cons.2 ⟨BodyOK.of_tie funOkNa4 Tryd.func20 (by kernel_rfl) t_ref04_Runes, List.forall_mem_cons.2 ⟨BodyOK.of_tie funOkNa4 Tryd.func38 (by kernel_rfl) t_ref04_First, List.forall_mem_cons.2 ⟨BodyOK.of_tie funOkNa4 Tryd.func50 (by kernel_rfl) t_ref04_follows, List.forall_mem_cons.2 ⟨BodyOK.of_tie funOkNa4 Tryd.func3 (by kernel_rfl) t_law04_NameRights, List.forall_mem_cons.2 ⟨BodyOK.of_tie funOkNa4 Tryd.func12 (by kernel_rfl) t_law04_awake, List.forall_mem_cons.2 ⟨BodyOK.of_tie funOkNa4 Tryd.func13 (by kernel_rfl) t_name_Right, List.forall_mem_cons.2 ⟨BodyOK.of_tie funOkNa4 Tryd.func14 (by kernel_rfl) t_ref04_Right, List.forall_mem_cons.2 ⟨BodyOK.of_tie funOkNa4 Tryd.func15 (by kernel_rfl) t_name_Of, List.forall_mem_cons.2 ⟨BodyOK.of_tie funOkNa4 Tryd.func16 (by kernel_rfl) t_ref04_Of, List.forall_mem_cons.2 ⟨BodyOK.of_tie funOkNa4 Tryd.func4 (by kernel_rfl) t_law04_NameShows, List.forall_mem_cons.2 ⟨BodyOK.of_tie funOkNa4 Tryd.func17 (by kernel_rfl) t_name_Show, List.forall_mem_cons.2 ⟨BodyOK.of_tie funOkNa4 Tryd.func18 (by kernel_rfl) t_ref04_Show, List.forall_mem_cons.2 ⟨BodyOK.of_tie funOkNa4 Tryd.func5 (by kernel_rfl) t_law04_NameRunes, List.forall_mem_cons.2 ⟨BodyOK.of_tie funOkNa4 Tryd.func19 (by kernel_rfl) t_name_Runes, List.forall_mem_cons.2 ⟨BodyOK.of_tie funOkNa4 Tryd.func6 (by kernel_rfl) t_law04_NameCuts, List.forall_mem_cons.2 ⟨BodyOK.of_tie funOkNa4 Tryd.func21 (by kernel_rfl) t_name_Cut, List.forall_mem_cons.2 ⟨BodyOK.of_tie funOkNa4 Tryd.func22 (by kernel_rfl) t_ref04_Cut, List.forall_mem_cons.2 ⟨BodyOK.of_tie funOkNa4 Tryd.func7 (by kernel_rfl) t_law04_NameOrders, List.forall_mem_cons.2 ⟨BodyOK.of_tie funOkNa4 Tryd.func23 (by kernel_rfl) t_name_Compare, List.forall_mem_cons.2 ⟨BodyOK.of_tie funOkNa4 Tryd.func24 (by kernel_rfl) t_ref04_Compare, List.forall_mem_cons.2 ⟨BodyOK.of_tie funOkNa4 Tryd.func8 (by kernel_rfl) t_law04_NameBetween, List.forall_mem_cons.2 ⟨BodyOK.of_tie funOkNa4 Tryd.func36 (by kernel_rfl) t_name_spans, List.forall_mem_cons.2 ⟨BodyOK.of_tie funOkNa4 Tryd.func37 (by kernel_rfl) t_strconv_FormatInt, List.forall_mem_cons.2 ⟨BodyOK.of_tie funOkNa4 Tryd.func39 (by kernel_rfl) t_ref04_hex, List.forall_mem_cons.2 ⟨BodyOK.of_tie funOkNa4 Tryd.func40 (by kernel_rfl) t_slices_Compare_rune_rune, List.forall_mem_cons.2 ⟨BodyOK.of_tie funOkNa4 Tryd.func49 (by kernel_rfl) t_strconv_FormatInt_, List.forall_mem_cons.2 ⟨BodyOK.of_tie funOkNa4 Tryd.func51 (by kernel_rfl) t_cmp_Compare_rune, List.forall_mem_cons.2 ⟨BodyOK.of_tie funOkNa4 Tryd.func58 (by kernel_rfl) t_strconv_small, List.forall_mem_cons.2 ⟨BodyOK.of_tie funOkNa4 Tryd.func59 (by kernel_rfl) t_strconv_numDigits, List.forall_mem_cons.2 ⟨BodyOK.of_tie funOkNa4 Tryd.func60 (by kernel_rfl) t_strconv_formatBase10, List.forall_mem_cons.2 ⟨BodyOK.of_tie funOkNa4 Tryd.func61 (by kernel_rfl) t_strconv_formatBits, List.forall_mem_cons.2 ⟨BodyOK.of_tie funOkNa4 Tryd.func62 (by kernel_rfl) t_cmp_isNaN_rune, List.forall_mem_cons.2 ⟨BodyOK.of_tie funOkNa4 Tryd.func68 (by kernel_rfl) t_bits_Len64, List.forall_mem_cons.2 ⟨BodyOK.of_tie funOkNa4 Tryd.func67 (by kernel_rfl) t_strconv_log10Pow2, List.forall_mem_cons.2 ⟨BodyOK.of_tie funOkNa4 Tryd.func70 (by kernel_rfl) t_strconv_isPowerOfTwo, List.forall_mem_cons.2 ⟨BodyOK.of_tie funOkNa4 Tryd.func71 (by kernel_rfl) t_bits_TrailingZeros, List.forall_mem_cons.2 ⟨BodyOK.of_tie funOkNa4 Tryd.func69 (by kernel_rfl) t_internal_strconv_bool2_int, List.forall_mem_cons.2 ⟨BodyOK.of_tie funOkNa4 Tryd.func77 (by kernel_rfl) t_bits_TrailingZeros64, (fun _ h => by cases h)⟩⟩⟩⟩⟩⟩⟩⟩⟩⟩⟩⟩⟩⟩⟩⟩⟩⟩⟩⟩⟩⟩⟩⟩⟩⟩⟩⟩⟩⟩⟩⟩⟩⟩⟩⟩⟩⟩)
theorem has_ref04_follows : H_ref04_follows (bdOf bdsNa4) := ⟨by kernel_rfl⟩
theorem has_ref04_First : H_ref04_First (bdOf bdsNa4) := ⟨by kernel_rfl, has_ref04_follows⟩
theorem has_ref04_Runes : H_ref04_Runes (bdOf bdsNa4) := ⟨by kernel_rfl, has_ref04_First⟩
theorem has_name_spans : H_name_spans (bdOf bdsNa4) := ⟨by kernel_rfl⟩
theorem has_name_Of : H_name_Of (bdOf bdsNa4) := ⟨by kernel_rfl, has_name_spans⟩
theorem has_name_Right : H_name_Right (bdOf bdsNa4) := ⟨by kernel_rfl, has_name_Of⟩
theorem has_strconv_small : H_strconv_small (bdOf bdsNa4) := ⟨by kernel_rfl⟩
theorem has_strconv_log10Pow2 : H_strconv_log10Pow2 (bdOf bdsNa4) := ⟨by kernel_rfl⟩
theorem has_bits_Len64 : H_bits_Len64 (bdOf bdsNa4) := ⟨by kernel_rfl⟩
theorem has_internal_strconv_bool2_int : H_internal_strconv_bool2_int (bdOf bdsNa4) := ⟨by kernel_rfl⟩
theorem has_strconv_numDigits : H_strconv_numDigits (bdOf bdsNa4) := ⟨by kernel_rfl, has_strconv_log10Pow2, has_bits_Len64, has_internal_strconv_bool2_int⟩
theorem has_strconv_formatBase10 : H_strconv_formatBase10 (bdOf bdsNa4) := ⟨by kernel_rfl⟩
theorem has_strconv_isPowerOfTwo : H_strconv_isPowerOfTwo (bdOf bdsNa4) := ⟨by kernel_rfl⟩
theorem has_bits_TrailingZeros64 : H_bits_TrailingZeros64 (bdOf bdsNa4) := ⟨fun c n => by kernel_rfl⟩
theorem has_bits_TrailingZeros : H_bits_TrailingZeros (bdOf bdsNa4) := ⟨by kernel_rfl, has_bits_TrailingZeros64⟩
theorem has_strconv_formatBits : H_strconv_formatBits (bdOf bdsNa4) := ⟨by kernel_rfl, has_strconv_isPowerOfTwo, has_bits_TrailingZeros⟩
theorem has_strconv_FormatInt_ : H_strconv_FormatInt_ (bdOf bdsNa4) := ⟨by kernel_rfl, has_strconv_small, has_strconv_numDigits, has_strconv_formatBase10, has_strconv_formatBits⟩
theorem has_strconv_FormatInt : H_strconv_FormatInt (bdOf bdsNa4) := ⟨by kernel_rfl, has_strconv_FormatInt_⟩
theorem has_name_Show : H_name_Show (bdOf bdsNa4) := ⟨by kernel_rfl, has_name_Of, has_strconv_FormatInt⟩
theorem has_law04_awake : H_law04_awake (bdOf bdsNa4) := ⟨by kernel_rfl, has_name_Right, has_name_Show⟩
theorem has_ref04_Of : H_ref04_Of (bdOf bdsNa4) := ⟨by kernel_rfl⟩
theorem has_ref04_Right : H_ref04_Right (bdOf bdsNa4) := ⟨by kernel_rfl, has_ref04_Of, has_ref04_Runes⟩
theorem has_law04_NameRights : H_law04_NameRights (bdOf bdsNa4) := ⟨by kernel_rfl, has_law04_awake, has_name_Right, has_ref04_Right, has_name_Of, has_ref04_Of⟩
theorem has_ref04_hex : H_ref04_hex (bdOf bdsNa4) := ⟨by kernel_rfl⟩
theorem has_ref04_Show : H_ref04_Show (bdOf bdsNa4) := ⟨by kernel_rfl, has_ref04_Of, has_ref04_First, has_ref04_hex⟩
theorem has_law04_NameShows : H_law04_NameShows (bdOf bdsNa4) := ⟨by kernel_rfl, has_law04_awake, has_name_Right, has_name_Show, has_ref04_Show⟩
theorem has_name_Runes : H_name_Runes (bdOf bdsNa4) := ⟨by kernel_rfl⟩
theorem has_law04_NameRunes : H_law04_NameRunes (bdOf bdsNa4) := ⟨by kernel_rfl, has_law04_awake, has_name_Runes, has_ref04_Runes⟩
theorem has_name_Cut : H_name_Cut (bdOf bdsNa4) := ⟨by kernel_rfl⟩
theorem has_ref04_Cut : H_ref04_Cut (bdOf bdsNa4) := ⟨by kernel_rfl, has_ref04_First⟩
theorem has_law04_NameCuts : H_law04_NameCuts (bdOf bdsNa4) := ⟨by kernel_rfl, has_law04_awake, has_name_Cut, has_ref04_Cut⟩
theorem has_cmp_isNaN_rune : H_cmp_isNaN_rune (bdOf bdsNa4) := ⟨by kernel_rfl⟩
theorem has_cmp_Compare_rune : H_cmp_Compare_rune (bdOf bdsNa4) := ⟨by kernel_rfl, has_cmp_isNaN_rune⟩
theorem has_slices_Compare_rune_rune : H_slices_Compare_rune_rune (bdOf bdsNa4) := ⟨by kernel_rfl, has_cmp_Compare_rune⟩
theorem has_name_Compare : H_name_Compare (bdOf bdsNa4) := ⟨by kernel_rfl, has_name_Runes, has_slices_Compare_rune_rune⟩
theorem has_ref04_Compare : H_ref04_Compare (bdOf bdsNa4) := ⟨by kernel_rfl, has_ref04_Runes⟩
theorem has_law04_NameOrders : H_law04_NameOrders (bdOf bdsNa4) := ⟨by kernel_rfl, has_law04_awake, has_ref04_Right, has_name_Compare, has_ref04_Compare⟩
theorem has_law04_NameBetween : H_law04_NameBetween (bdOf bdsNa4) := ⟨by kernel_rfl, has_law04_awake, has_name_Compare⟩
end Go.Gv
