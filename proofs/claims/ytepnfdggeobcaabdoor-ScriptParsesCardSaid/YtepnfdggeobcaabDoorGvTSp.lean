/- The ties of a seat: written by gvseat.py. -/
import Derived.Test.YtepnfdggeobcaabDoorGvZRun
import Derived.Test.YtepnfdggeobcaabDoorGvBDb
import Derived.Test.YtepnfdggeobcaabDoorGvBDi
import Derived.Test.YtepnfdggeobcaabDoorGvBLaa
import Derived.Test.YtepnfdggeobcaabDoorGvBSp
import Derived.Test.YtepnfdggeobcaabDoorProg
namespace Go.Gv
open Go.Proofs
set_option maxRecDepth 100000
noncomputable section
def cfgSp : Cfg := ⟨Tryd.prog, lkN [(44, 3), (32, 6), (43, 9), (53, 10), (52, 11), (54, 12), (55, 13), (66, 15), (74, 19), (12, 50), (26, 51), (22, 53), (9, 59), (25, 61), (24, 62), (21, 66), (35, 76), (45, 84), (56, 88), (67, 89), (10, 95), (14, 99), (6, 100), (15, 101), (16, 102), (17, 103), (18, 104), (7, 105), (20, 106), (19, 107), (28, 108), (27, 109), (30, 110), (29, 111), (31, 112), (33, 113), (34, 114)], has [44, 32, 43, 53, 52, 54, 55, 66, 74, 12, 26, 22, 9, 25, 24, 21, 35, 45, 56, 67, 10, 14, 6, 15, 16, 17, 18, 7, 20, 19, 28, 27, 30, 29, 31, 33, 34], tyN [(9, 0)], lkN [(0, 0)], has [0], lkE [(24, [.int .i64, .int .i64])]⟩
theorem t_ref31_Words : bodyM cfgSp ⟨[], (.n .z (.n .z (.n (.n .z (.j [] (.j [(5, .v (.b (.int .i64)))] .z .z) .z)) (.n .z (.n .z (.n (.n .z (.j [(6, .v (.b (.slice 1)))] (.j [(6, .v (.b (.slice 1))), (7, .v (.b (.str))), (8, .v (.b (.int .i64)))] (.n .z (.n (.n (.n .z (.j [(6, .v (.b (.slice 1))), (7, .v (.b (.str)))] (.n (.n .z (.j [(6, .v (.b (.slice 1)))] .z .z)) .z) .z)) .z) .z)) .z) .z)) .z)))))), true⟩ Tryd.f44 = b_ref31_Words := by kernel_rfl
theorem t_ref31_Plain : bodyM cfgSp ⟨[], .z, false⟩ Tryd.f32 = b_ref31_Plain := by kernel_rfl
theorem t_lex_Plain : bodyM cfgSp ⟨[], (.n .z (.n (.n .z (.j [] (.j [(6, .t)] .z .z) .z)) .z)), false⟩ Tryd.f43 = b_lex_Plain := by kernel_rfl
theorem t_lex_blank : bodyM cfgSp ⟨[], .z, false⟩ Tryd.f53 = b_lex_blank := by kernel_rfl
theorem t_lex_wrong : bodyM cfgSp ⟨[], .z, false⟩ Tryd.f52 = b_lex_wrong := by kernel_rfl
theorem t_ref04_Runes : bodyM cfgSp ⟨[], (.n .z (.n .z (.n (.j [(3, .v (.b (.slice 1)))] (.j [(0, .v (.b (.str))), (3, .v (.b (.slice 1)))] .z .z) .z) .z))), true⟩ Tryd.f54 = b_ref04_Runes := by kernel_rfl
theorem t_ref31_Wrong : bodyM cfgSp ⟨[], .z, false⟩ Tryd.f55 = b_ref31_Wrong := by kernel_rfl
theorem t_ref04_First : bodyM cfgSp ⟨[], (.n .z (.n .z (.n .z (.n (.n (.n .z (.n .z (.n .z (.n .z (.n .z (.j [] (.n (.n .z (.j [(5, .v (.b (.int .u8)))] .z .z)) (.n (.n .z (.j [(6, .v (.b (.int .u8)))] .z .z)) .z)) (.n .z (.j [] (.n (.n .z (.j [(5, .v (.b (.int .u8)))] .z .z)) (.n (.n .z (.j [(6, .v (.b (.int .u8)))] .z .z)) .z)) .z)))))))) .z) .z)))), false⟩ Tryd.f66 = b_ref04_First := by kernel_rfl
theorem t_ref04_follows : bodyM cfgSp ⟨[], .z, false⟩ Tryd.f74 = b_ref04_follows := by kernel_rfl
theorem t_digit_Read : bodyM cfgSp ⟨[], (.n .z (.n .z (.n (.n .z (.j [] (.j [(8, .t)] .z .z) .z)) .z))), false⟩ Tryd.f12 = b_digit_Read := by kernel_rfl
theorem t_ref03_Show : bodyM cfgSp ⟨[], (.n .z (.n .z (.n .z (.n (.n .z (.j [(3, .v (.b (.str)))] (.j [(3, .v (.b (.str))), (4, .v (.b (.int .i64)))] (.n .z (.n (.n (.n .z (.n (.n .z (.j [(5, .v (.b (.int .i64)))] .z .z)) .z)) .z) .z)) .z) .z)) .z)))), false⟩ Tryd.f26 = b_ref03_Show := by kernel_rfl
theorem t_ref03_Read : bodyM cfgSp ⟨[], (.n .z (.n .z (.n .z (.n (.n .z (.j [(4, .v (.b (.int .i64)))] (.j [(4, .v (.b (.int .i64))), (5, .v (.b (.int .i64)))] (.n .z (.n (.n (.n .z (.j [(4, .v (.b (.int .i64)))] (.n .z (.n (.n .z (.j [(6, .v (.b (.int .i64)))] .z .z)) .z)) .z)) .z) .z)) .z) .z)) .z)))), false⟩ Tryd.f22 = b_ref03_Read := by kernel_rfl
theorem t_digit_ReadHandle : bodyM cfgSp ⟨[2], .z, false⟩ Tryd.f9 = b_digit_ReadHandle := by kernel_rfl
theorem t_digit_reader_number : bodyM cfgSp ⟨[], (.n .z (.n (.n (.n (.n .z (.j [(4, .v (.b (.bool)))] .z (.n .z (.j [(4, .v (.b (.bool)))] .z .z)))) .z) .z) .z)), false⟩ Tryd.f25 = b_digit_reader_number := by kernel_rfl
theorem t_digit_reader_takes : bodyM cfgSp ⟨[], .z, false⟩ Tryd.f24 = b_digit_reader_takes := by kernel_rfl
theorem t_strings_Cut : bodyM cfgSp ⟨[], .z, false⟩ Tryd.f21 = b_strings_Cut := by kernel_rfl
theorem t_stringslite_Cut : bodyM cfgSp ⟨[], .z, false⟩ Tryd.f35 = b_stringslite_Cut := by kernel_rfl
theorem t_stringslite_Index : bodyM cfgSp ⟨[], (.n .z (.n .z (.n .z (.n .z (.n .z (.n .z (.n .z (.n .z (.n (.j [] (.j [(8, .v (.b (.int .i64))), (10, .v (.b (.int .i64)))] (.n .z (.n (.n (.n .z (.j [(8, .v (.b (.int .i64)))] .z .z)) .z) .z)) .z) .z) .z))))))))), false⟩ Tryd.f45 = b_stringslite_Index := by kernel_rfl
theorem t_stringslite_IndexByte : bodyM cfgSp ⟨[], .z, false⟩ Tryd.f56 = b_stringslite_IndexByte := by kernel_rfl
theorem t_ref03_ReadHandle : bodyM cfgSp ⟨[2, 9], (.n .z (.n (.n .z (.j [(2, .l [.int .i64, .int .i64])] (.j [(2, .l [.int .i64, .int .i64]), (4, .v (.b (.int .i64)))] .z .z) .z)) .z)), false⟩ Tryd.f10 = b_ref03_ReadHandle := by kernel_rfl
theorem t_ref03_Handle : bodyM cfgSp ⟨[1], .z, false⟩ Tryd.f14 = b_ref03_Handle := by kernel_rfl
theorem t_law32_ScriptParses : bodyM cfgSp ⟨[4, 6], (.n .z (.n .z (.n (.n .z (.j [] (.j [(3, .v (.b (.int .i64)))] .z .z) .z)) .z))), false⟩ Tryd.f6 = b_law32_ScriptParses := by kernel_rfl
theorem t_law32_awake : bodyM cfgSp ⟨[1, 3], .z, false⟩ Tryd.f15 = b_law32_awake := by kernel_rfl
theorem t_script_Parse : bodyM cfgSp ⟨[2, 4], (.n .z (.n .z (.n .z (.n .z (.n .z (.n .z (.n (.n .z (.j [(4, .l [.str, .str, .int .i64])] .z .z)) (.n (.n .z (.j [(2, .l [.int .i64, .str, .str, .int .i64, .int .i64, .int .i64, .int .i64, .slice 1])] (.j [(2, .l [.int .i64, .str, .str, .int .i64, .int .i64, .int .i64, .int .i64, .slice 1]), (49, .t)] .z .z) .z)) .z)))))))), true⟩ Tryd.f16 = b_script_Parse := by kernel_rfl
theorem t_ref32_Parse : bodyM cfgSp ⟨[2, 7, 13], (.n .z (.n .z (.n .z (.n (.n .z (.j [(2, .l [.int .i64, .str, .str, .int .i64, .int .i64, .int .i64, .int .i64, .slice 1])] (.j [(2, .l [.int .i64, .str, .str, .int .i64, .int .i64, .int .i64, .int .i64, .slice 1]), (6, .v (.b (.int .i64)))] (.n .z (.n (.j [(2, .l [.int .i64, .str, .str, .int .i64, .int .i64, .int .i64, .int .i64, .slice 1])] (.n .z (.n .z (.n .z (.n (.n .z (.j [(8, .v (.b (.str)))] (.n .z (.n .z (.j [(8, .v (.b (.str)))] (.j [(8, .v (.b (.str))), (9, .v (.b (.int .i64)))] .z .z) .z))) .z)) (.n .z (.n (.n .z (.j [(2, .l [.int .i64, .str, .str, .int .i64, .int .i64, .int .i64, .int .i64, .slice 1]), (7, .l [.int .i64, .str, .str, .int .i64, .int .i64, .int .i64, .int .i64, .slice 1])] (.j [(2, .l [.int .i64, .str, .str, .int .i64, .int .i64, .int .i64, .int .i64, .slice 1]), (7, .l [.int .i64, .str, .str, .int .i64, .int .i64, .int .i64, .int .i64, .slice 1]), (10, .v (.b (.int .i64)))] (.n .z (.n (.n (.n .z (.n .z (.n .z (.n (.n .z (.n (.n .z (.j [(7, .l [.int .i64, .str, .str, .int .i64, .int .i64, .int .i64, .int .i64, .slice 1]), (15, .v (.b (.bool)))] .z (.n .z (.j [(7, .l [.int .i64, .str, .str, .int .i64, .int .i64, .int .i64, .int .i64, .slice 1]), (15, .v (.b (.bool)))] .z (.n .z (.j [(7, .l [.int .i64, .str, .str, .int .i64, .int .i64, .int .i64, .int .i64, .slice 1]), (15, .v (.b (.bool)))] .z (.n .z (.j [(7, .l [.int .i64, .str, .str, .int .i64, .int .i64, .int .i64, .int .i64, .slice 1]), (15, .v (.b (.bool)))] .z (.n .z (.j [(7, .l [.int .i64, .str, .str, .int .i64, .int .i64, .int .i64, .int .i64, .slice 1]), (15, .v (.b (.bool)))] .z (.n .z (.j [(7, .l [.int .i64, .str, .str, .int .i64, .int .i64, .int .i64, .int .i64, .slice 1])] .z .z)))))))))))) .z)) .z)))) .z) .z)) .z) .z)) .z)))))) .z) .z)) .z) .z)) .z)))), true⟩ Tryd.f17 = b_ref32_Parse := by kernel_rfl
theorem t_ref32_Same : bodyM cfgSp ⟨[2, 3], .z, false⟩ Tryd.f18 = b_ref32_Same := by kernel_rfl
theorem t_law32_ScriptSames : bodyM cfgSp ⟨[2, 3], .z, false⟩ Tryd.f7 = b_law32_ScriptSames := by kernel_rfl
theorem t_script_Same : bodyM cfgSp ⟨[2, 3], .z, false⟩ Tryd.f20 = b_script_Same := by kernel_rfl
theorem t_law32_Small : bodyM cfgSp ⟨[1], .z, false⟩ Tryd.f19 = b_law32_Small := by kernel_rfl
theorem t_script_Parse_1 : bodyM cfgSp ⟨[2], .z, false⟩ Tryd.f28 = b_script_Parse_1 := by kernel_rfl
theorem t_script_find : bodyM cfgSp ⟨[2, 5], (.n .z (.n (.n .z (.j [(2, .l [.str, .str, .int .i64])] (.j [(2, .l [.str, .str, .int .i64]), (7, .v (.b (.int .i64)))] .z .z) .z)) .z)), false⟩ Tryd.f27 = b_script_find := by kernel_rfl
theorem t_script_take : bodyM cfgSp ⟨[], (.n .z (.n (.n .z (.n (.n .z (.j [(6, .v (.b (.bool)))] .z (.n .z (.j [(6, .v (.b (.bool)))] .z (.n .z (.j [(6, .v (.b (.bool)))] .z (.n .z (.j [(6, .v (.b (.bool)))] .z (.n .z (.j [(6, .v (.b (.bool)))] .z (.n .z (.j [(6, .v (.b (.bool)))] .z .z)))))))))))) .z)) .z)), false⟩ Tryd.f30 = b_script_take := by kernel_rfl
theorem t_ref32_table : bodyM cfgSp ⟨[], .z, true⟩ Tryd.f31 = b_ref32_table := by kernel_rfl
theorem t_ref01_Ints : bodyM cfgSp ⟨[], (.n .z (.n .z (.n (.n .z (.j [] (.j [(5, .v (.b (.int .i64)))] .z .z) .z)) .z))), false⟩ Tryd.f33 = b_ref01_Ints := by kernel_rfl
theorem t_slices_Equal_int_int : bodyM cfgSp ⟨[], (.n .z (.n .z (.n (.n .z (.j [] (.j [(13, .v (.b (.int .i64)))] .z .z) .z)) .z))), false⟩ Tryd.f34 = b_slices_Equal_int_int := by kernel_rfl
end
noncomputable def ren_n105_Sp : Go.Shelf.Ren := ⟨fun | 99 => 38 | 105 => 29 | 165 => 39 | 166 => 40 | 169 => 42 | 170 => 41 | 206 => 49 | 212 => 37 | 240 => 50 | 241 => 51 | 263 => 47 | 264 => 48 | 276 => 64 | 277 => 65 | n => n, fun | 0 => 0 | 3 => 3 | 4 => 4 | 5 => 5 | 9 => 9 | 20 => 20 | 37 => 29 | 46 => 66 | 51 => 84 | 53 => 87 | 70 => 70 | 71 => 71 | 72 => 72 | 74 => 74 | 75 => 75 | 76 => 76 | 80 => 79 | 109 => 67 | 127 => 90 | 146 => 85 | 148 => 88 | 164 => 100 | n => n, fun | n => n⟩
theorem lays_n105_Sp : Lays.n105 Tryd.prog ren_n105_Sp where
  mixed := by kernel_rfl
  f99 := Tryd.func38.trans (congrArg some (by kernel_rfl))
  f105 := Tryd.func29.trans (congrArg some (by kernel_rfl))
  f165 := Tryd.func39.trans (congrArg some (by kernel_rfl))
  f166 := Tryd.func40.trans (congrArg some (by kernel_rfl))
  f169 := Tryd.func42.trans (congrArg some (by kernel_rfl))
  f170 := Tryd.func41.trans (congrArg some (by kernel_rfl))
  f206 := Tryd.func49.trans (congrArg some (by kernel_rfl))
  f212 := Tryd.func37.trans (congrArg some (by kernel_rfl))
  f240 := Tryd.func50.trans (congrArg some (by kernel_rfl))
  f241 := Tryd.func51.trans (congrArg some (by kernel_rfl))
  f263 := Tryd.func47.trans (congrArg some (by kernel_rfl))
  f264 := Tryd.func48.trans (congrArg some (by kernel_rfl))
  f276 := Tryd.func64.trans (congrArg some (by kernel_rfl))
  f277 := Tryd.func65.trans (congrArg some (by kernel_rfl))
  t0 := Tryd.underlying0
  a0 := Tryd.isAgg0
  z0 := Tryd.sizeOf0
  v0 := Tryd.zeroValue0
  t3 := Tryd.underlying3
  a3 := Tryd.isAgg3
  z3 := Tryd.sizeOf3
  v3 := Tryd.zeroValue3
  t4 := Tryd.underlying4
  a4 := Tryd.isAgg4
  z4 := Tryd.sizeOf4
  v4 := Tryd.zeroValue4
  t5 := Tryd.underlying5
  a5 := Tryd.isAgg5
  z5 := Tryd.sizeOf5
  v5 := Tryd.zeroValue5
  t9 := Tryd.underlying9
  a9 := Tryd.isAgg9
  z9 := Tryd.sizeOf9
  v9 := Tryd.zeroValue9
  t20 := Tryd.underlying20
  a20 := Tryd.isAgg20
  z20 := Tryd.sizeOf20
  v20 := Tryd.zeroValue20
  t37 := Tryd.underlying29
  a37 := Tryd.isAgg29
  z37 := Tryd.sizeOf29
  v37 := Tryd.zeroValue29
  t46 := Tryd.underlying66
  a46 := Tryd.isAgg66
  z46 := Tryd.sizeOf66
  v46 := Tryd.zeroValue66
  t51 := Tryd.underlying84
  a51 := Tryd.isAgg84
  z51 := Tryd.sizeOf84
  v51 := Tryd.zeroValue84
  t53 := Tryd.underlying87
  a53 := Tryd.isAgg87
  z53 := Tryd.sizeOf87
  v53 := Tryd.zeroValue87
  t70 := Tryd.underlying70
  a70 := Tryd.isAgg70
  z70 := Tryd.sizeOf70
  v70 := Tryd.zeroValue70
  t72 := Tryd.underlying72
  a72 := Tryd.isAgg72
  z72 := Tryd.sizeOf72
  v72 := Tryd.zeroValue72
  t75 := Tryd.underlying75
  a75 := Tryd.isAgg75
  z75 := Tryd.sizeOf75
  v75 := Tryd.zeroValue75
  t76 := Tryd.underlying76
  a76 := Tryd.isAgg76
  z76 := Tryd.sizeOf76
  v76 := Tryd.zeroValue76
  t109 := Tryd.underlying67
  a109 := Tryd.isAgg67
  z109 := Tryd.sizeOf67
  v109 := Tryd.zeroValue67
  t127 := Tryd.underlying90
  a127 := Tryd.isAgg90
  z127 := Tryd.sizeOf90
  v127 := Tryd.zeroValue90
  t146 := Tryd.underlying85
  a146 := Tryd.isAgg85
  z146 := Tryd.sizeOf85
  v146 := Tryd.zeroValue85
  t148 := Tryd.underlying88
  a148 := Tryd.isAgg88
  z148 := Tryd.sizeOf88
  v148 := Tryd.zeroValue88
  t164 := Tryd.underlying100
  a164 := Tryd.isAgg100
  z164 := Tryd.sizeOf100
  v164 := Tryd.zeroValue100
theorem extra_n105_Sp : Builder.Extra Tryd.prog ren_n105_Sp where
  sizeBuilder := by kernel_rfl
  liesBuilder := by kernel_rfl
  t5 := Tryd.underlying5
  a5 := Tryd.isAgg5
  z5 := Tryd.sizeOf5
  v5 := Tryd.zeroValue5
  infoByte := by kernel_rfl
  cellsByte := by kernel_rfl
  sizeByte := by kernel_rfl
  neB5 := by decide
theorem cfgOkSp : CfgOk cfgSp := ⟨tyN_inj (by kernel_rfl), (fun t h => eqTy_guard (lkE_ok (by kernel_rfl) t h)), (fun t h _ _ _ _ _ _ w hx hy he => eqTy_run (lkE_ok (by kernel_rfl) t h) w hx hy he), tae_of (e := 115) (by kernel_rfl) (by kernel_rfl)⟩
theorem funOkSp : FunOk cfgSp := ⟨cfgOkSp, by kernel_rfl⟩
noncomputable def bdsSp : List (Nat × Body) := [(3, b_ref31_Words), (6, b_ref31_Plain), (9, b_lex_Plain), (10, b_lex_blank), (11, b_lex_wrong), (12, b_ref04_Runes), (13, b_ref31_Wrong), (15, b_ref04_First), (19, b_ref04_follows), (50, b_digit_Read), (51, b_ref03_Show), (53, b_ref03_Read), (59, b_digit_ReadHandle), (61, b_digit_reader_number), (62, b_digit_reader_takes), (66, b_strings_Cut), (76, b_stringslite_Cut), (84, b_stringslite_Index), (88, b_stringslite_IndexByte), (89, nat_IndexByteString), (95, b_ref03_ReadHandle), (99, b_ref03_Handle), (100, b_law32_ScriptParses), (101, b_law32_awake), (102, b_script_Parse), (103, b_ref32_Parse), (104, b_ref32_Same), (105, b_law32_ScriptSames), (106, b_script_Same), (107, b_law32_Small), (108, b_script_Parse_1), (109, b_script_find), (110, b_script_take), (111, lib_Repeat), (112, b_ref32_table), (113, b_ref01_Ints), (114, b_slices_Equal_int_int)]
theorem bodiesSp : ∀ n, OracleOK cfgSp (run (bdOf bdsSp) n) :=
  seat_ok (cov := [44, 32, 43, 53, 52, 54, 55, 66, 74, 12, 26, 22, 9, 25, 24, 21, 35, 45, 56, 67, 10, 14, 6, 15, 16, 17, 18, 7, 20, 19, 28, 27, 30, 29, 31, 33, 34]) rfl (by kernel_rfl) (List.forall_mem_cons.2 ⟨BodyOK.of_tie funOkSp Tryd.func44 (by kernel_rfl) t_ref31_Words, List.forall_mem_cons.2 ⟨BodyOK.of_tie funOkSp Tryd.func32 (by kernel_rfl) t_ref31_Plain, List.forall_mem_cons.2 ⟨BodyOK.of_tie funOkSp Tryd.func43 (by kernel_rfl) t_lex_Plain, List.forall_mem_cons.2 ⟨BodyOK.of_tie funOkSp Tryd.func53 (by kernel_rfl) t_lex_blank, List.forall_mem_cons.2 ⟨BodyOK.of_tie funOkSp Tryd.func52 (by kernel_rfl) t_lex_wrong, List.forall_mem_cons.2 ⟨BodyOK.of_tie funOkSp Tryd.func54 (by kernel_rfl) t_ref04_Runes, List.forall_mem_cons.2 ⟨BodyOK.of_tie funOkSp Tryd.func55 (by kernel_rfl) t_ref31_Wrong, List.forall_mem_cons.2 ⟨BodyOK.of_tie funOkSp Tryd.func66 (by kernel_rfl) t_ref04_First, List.forall_mem_cons.2 ⟨BodyOK.of_tie funOkSp Tryd.func74 (by kernel_rfl) t_ref04_follows, List.forall_mem_cons.2 ⟨BodyOK.of_tie funOkSp Tryd.func12 (by kernel_rfl) t_digit_Read, List.forall_mem_cons.2 ⟨BodyOK.of_tie funOkSp Tryd.func26 (by kernel_rfl) t_ref03_Show, List.forall_mem_cons.2 ⟨BodyOK.of_tie funOkSp Tryd.func22 (by kernel_rfl) t_ref03_Read, List.forall_mem_cons.2 ⟨BodyOK.of_tie funOkSp Tryd.func9 (by kernel_rfl) t_digit_ReadHandle, List.forall_mem_cons.2 ⟨BodyOK.of_tie funOkSp Tryd.func25 (by kernel_rfl) t_digit_reader_number, List.forall_mem_cons.2 ⟨BodyOK.of_tie funOkSp Tryd.func24 (by kernel_rfl) t_digit_reader_takes, List.forall_mem_cons.2 ⟨BodyOK.of_tie funOkSp Tryd.func21 (by kernel_rfl) t_strings_Cut, List.forall_mem_cons.2 ⟨BodyOK.of_tie funOkSp Tryd.func35 (by kernel_rfl) t_stringslite_Cut, List.forall_mem_cons.2 ⟨BodyOK.of_tie funOkSp Tryd.func45 (by kernel_rfl) t_stringslite_Index, List.forall_mem_cons.2 ⟨BodyOK.of_tie funOkSp Tryd.func56 (by kernel_rfl) t_stringslite_IndexByte, List.forall_mem_cons.2 ⟨nat_IndexByteString_ok Tryd.func67 (by kernel_rfl) (by kernel_rfl) (by kernel_rfl) (by kernel_rfl), List.forall_mem_cons.2 ⟨BodyOK.of_tie funOkSp Tryd.func10 (by kernel_rfl) t_ref03_ReadHandle, List.forall_mem_cons.2 ⟨BodyOK.of_tie funOkSp Tryd.func14 (by kernel_rfl) t_ref03_Handle, List.forall_mem_cons.2 ⟨BodyOK.of_tie funOkSp Tryd.func6 (by kernel_rfl) t_law32_ScriptParses, List.forall_mem_cons.2 ⟨BodyOK.of_tie funOkSp Tryd.func15 (by kernel_rfl) t_law32_awake, List.forall_mem_cons.2 ⟨BodyOK.of_tie funOkSp Tryd.func16 (by kernel_rfl) t_script_Parse, List.forall_mem_cons.2 ⟨BodyOK.of_tie funOkSp Tryd.func17 (by kernel_rfl) t_ref32_Parse, List.forall_mem_cons.2 ⟨BodyOK.of_tie funOkSp Tryd.func18 (by kernel_rfl) t_ref32_Same, List.forall_mem_cons.2 ⟨BodyOK.of_tie funOkSp Tryd.func7 (by kernel_rfl) t_law32_ScriptSames, List.forall_mem_cons.2 ⟨BodyOK.of_tie funOkSp Tryd.func20 (by kernel_rfl) t_script_Same, List.forall_mem_cons.2 ⟨BodyOK.of_tie funOkSp Tryd.func19 (by kernel_rfl) t_law32_Small, List.forall_mem_cons.2 ⟨BodyOK.of_tie funOkSp Tryd.func28 (by kernel_rfl) t_script_Parse_1, List.forall_mem_cons.2 ⟨BodyOK.of_tie funOkSp Tryd.func27 (by kernel_rfl) t_script_find, List.forall_mem_cons.2 ⟨BodyOK.of_tie funOkSp Tryd.func30 (by kernel_rfl) t_script_take, List.forall_mem_cons.2 ⟨lib_Repeat_ok lays_n105_Sp extra_n105_Sp rfl Tryd.func29 (by kernel_rfl) (by kernel_rfl), List.forall_mem_cons.2 ⟨BodyOK.of_tie funOkSp Tryd.func31 (by kernel_rfl) t_ref32_table, List.forall_mem_cons.2 ⟨BodyOK.of_tie funOkSp Tryd.func33 (by kernel_rfl) t_ref01_Ints, List.forall_mem_cons.2 ⟨BodyOK.of_tie funOkSp Tryd.func34 (by kernel_rfl) t_slices_Equal_int_int, (fun _ h => by cases h)⟩⟩⟩⟩⟩⟩⟩⟩⟩⟩⟩⟩⟩⟩⟩⟩⟩⟩⟩⟩⟩⟩⟩⟩⟩⟩⟩⟩⟩⟩⟩⟩⟩⟩⟩⟩⟩)
theorem has_ref04_follows : H_ref04_follows (bdOf bdsSp) := ⟨by kernel_rfl⟩
theorem has_ref04_First : H_ref04_First (bdOf bdsSp) := ⟨by kernel_rfl, has_ref04_follows⟩
theorem has_ref04_Runes : H_ref04_Runes (bdOf bdsSp) := ⟨by kernel_rfl, has_ref04_First⟩
theorem has_ref31_Wrong : H_ref31_Wrong (bdOf bdsSp) := ⟨by kernel_rfl⟩
theorem has_ref31_Words : H_ref31_Words (bdOf bdsSp) := ⟨by kernel_rfl, has_ref04_Runes, has_ref31_Wrong⟩
theorem has_ref31_Plain : H_ref31_Plain (bdOf bdsSp) := ⟨by kernel_rfl, has_ref31_Words⟩
theorem has_lex_wrong : H_lex_wrong (bdOf bdsSp) := ⟨by kernel_rfl⟩
theorem has_lex_blank : H_lex_blank (bdOf bdsSp) := ⟨by kernel_rfl⟩
theorem has_lex_Plain : H_lex_Plain (bdOf bdsSp) := ⟨by kernel_rfl, has_lex_wrong, has_lex_blank⟩
theorem has_digit_reader_takes : H_digit_reader_takes (bdOf bdsSp) := ⟨by kernel_rfl⟩
theorem has_digit_reader_number : H_digit_reader_number (bdOf bdsSp) := ⟨by kernel_rfl⟩
theorem has_digit_Read : H_digit_Read (bdOf bdsSp) := ⟨by kernel_rfl, has_digit_reader_takes, has_digit_reader_number⟩
theorem has_ref03_Show : H_ref03_Show (bdOf bdsSp) := ⟨by kernel_rfl⟩
theorem has_ref03_Read : H_ref03_Read (bdOf bdsSp) := ⟨by kernel_rfl, has_ref03_Show⟩
theorem has_bytealg_IndexByteString : H_bytealg_IndexByteString (bdOf bdsSp) := ⟨by kernel_rfl⟩
theorem has_stringslite_IndexByte : H_stringslite_IndexByte (bdOf bdsSp) := ⟨by kernel_rfl, has_bytealg_IndexByteString⟩
theorem has_stringslite_Index : H_stringslite_Index (bdOf bdsSp) := ⟨by kernel_rfl, has_stringslite_IndexByte⟩
theorem has_stringslite_Cut : H_stringslite_Cut (bdOf bdsSp) := ⟨by kernel_rfl, has_stringslite_Index⟩
theorem has_strings_Cut : H_strings_Cut (bdOf bdsSp) := ⟨by kernel_rfl, has_stringslite_Cut⟩
theorem has_digit_ReadHandle : H_digit_ReadHandle (bdOf bdsSp) := ⟨by kernel_rfl, has_digit_Read, has_strings_Cut⟩
theorem has_ref03_Handle : H_ref03_Handle (bdOf bdsSp) := ⟨by kernel_rfl, has_ref03_Show⟩
theorem has_ref03_ReadHandle : H_ref03_ReadHandle (bdOf bdsSp) := ⟨by kernel_rfl, has_ref03_Handle, has_ref03_Read⟩
theorem has_script_find : H_script_find (bdOf bdsSp) := ⟨by kernel_rfl⟩
theorem has_script_Parse_1 : H_script_Parse_1 (bdOf bdsSp) := ⟨by kernel_rfl⟩
theorem has_strings_Repeat : H_strings_Repeat (bdOf bdsSp) := ⟨by kernel_rfl⟩
theorem has_script_take : H_script_take (bdOf bdsSp) := ⟨by kernel_rfl, has_digit_ReadHandle, has_digit_Read, has_lex_Plain⟩
theorem has_script_Parse : H_script_Parse (bdOf bdsSp) := ⟨by kernel_rfl, has_script_find, has_script_Parse_1, has_strings_Repeat, has_script_take⟩
theorem has_slices_Equal_int_int : H_slices_Equal_int_int (bdOf bdsSp) := ⟨by kernel_rfl⟩
theorem has_script_Same : H_script_Same (bdOf bdsSp) := ⟨by kernel_rfl, has_slices_Equal_int_int⟩
theorem has_law32_awake : H_law32_awake (bdOf bdsSp) := ⟨by kernel_rfl, has_script_Parse, has_script_Same⟩
theorem has_ref32_table : H_ref32_table (bdOf bdsSp) := ⟨by kernel_rfl⟩
theorem has_ref32_Parse : H_ref32_Parse (bdOf bdsSp) := ⟨by kernel_rfl, has_ref03_ReadHandle, has_ref03_Read, has_ref32_table, has_ref31_Plain⟩
theorem has_ref01_Ints : H_ref01_Ints (bdOf bdsSp) := ⟨by kernel_rfl⟩
theorem has_ref32_Same : H_ref32_Same (bdOf bdsSp) := ⟨by kernel_rfl, has_ref01_Ints⟩
theorem has_law32_ScriptParses : H_law32_ScriptParses (bdOf bdsSp) := ⟨by kernel_rfl, has_law32_awake, has_script_Parse, has_ref32_Parse, has_ref32_Same⟩
theorem has_law32_Small : H_law32_Small (bdOf bdsSp) := ⟨by kernel_rfl⟩
theorem has_law32_ScriptSames : H_law32_ScriptSames (bdOf bdsSp) := ⟨by kernel_rfl, has_law32_awake, has_ref32_Same, has_law32_Small, has_script_Same⟩
end Go.Gv
