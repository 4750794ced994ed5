/- The ties of a seat: written by gvseat.py. -/
import Derived.Test.YtepnfdggeobcaabDoorGvZRun
import Derived.Test.YtepnfdggeobcaabDoorGvBDi
import Derived.Test.YtepnfdggeobcaabDoorGvBLaa
import Derived.Test.YtepnfdggeobcaabDoorGvBSp
import Derived.Test.YtepnfdggeobcaabDoorProg
namespace Go.Gv
open Go.Proofs
set_option maxRecDepth 100000
noncomputable section
def cfgSs : Cfg := ⟨Tryd.prog, lkN [(43, 9), (53, 10), (52, 11), (12, 50), (9, 59), (25, 61), (24, 62), (21, 66), (35, 76), (45, 84), (56, 88), (67, 89), (15, 101), (16, 102), (18, 104), (7, 105), (20, 106), (19, 107), (28, 108), (27, 109), (30, 110), (29, 111), (33, 113), (34, 114)], has [43, 53, 52, 12, 9, 25, 24, 21, 35, 45, 56, 67, 15, 16, 18, 7, 20, 19, 28, 27, 30, 29, 33, 34], tyN [(9, 0)], lkN [(0, 0)], has [0], lkE [(24, [.int .i64, .int .i64])]⟩
theorem t_lex_Plain : bodyM cfgSs ⟨[], (.n .z (.n (.n .z (.j [] (.j [(6, .t)] .z .z) .z)) .z)), false⟩ Tryd.f43 = b_lex_Plain := by kernel_rfl
theorem t_lex_blank : bodyM cfgSs ⟨[], .z, false⟩ Tryd.f53 = b_lex_blank := by kernel_rfl
theorem t_lex_wrong : bodyM cfgSs ⟨[], .z, false⟩ Tryd.f52 = b_lex_wrong := by kernel_rfl
theorem t_digit_Read : bodyM cfgSs ⟨[], (.n .z (.n .z (.n (.n .z (.j [] (.j [(8, .t)] .z .z) .z)) .z))), false⟩ Tryd.f12 = b_digit_Read := by kernel_rfl
theorem t_digit_ReadHandle : bodyM cfgSs ⟨[2], .z, false⟩ Tryd.f9 = b_digit_ReadHandle := by kernel_rfl
theorem t_digit_reader_number : bodyM cfgSs ⟨[], (.n .z (.n (.n (.n (.n .z (.j [(4, .v (.b (.bool)))] .z (.n .z (.j [(4, .v (.b (.bool)))] .z .z)))) .z) .z) .z)), false⟩ Tryd.f25 = b_digit_reader_number := by kernel_rfl
theorem t_digit_reader_takes : bodyM cfgSs ⟨[], .z, false⟩ Tryd.f24 = b_digit_reader_takes := by kernel_rfl
theorem t_strings_Cut : bodyM cfgSs ⟨[], .z, false⟩ Tryd.f21 = b_strings_Cut := by kernel_rfl
theorem t_stringslite_Cut : bodyM cfgSs ⟨[], .z, false⟩ Tryd.f35 = b_stringslite_Cut := by kernel_rfl
theorem t_stringslite_Index : bodyM cfgSs ⟨[], (.n .z (.n .z (.n .z (.n .z (.n .z (.n .z (.n .z (.n .z (.n (.j [] (.j [(8, .v (.b (.int .i64))), (10, .v (.b (.int .i64)))] (.n .z (.n (.n (.n .z (.j [(8, .v (.b (.int .i64)))] .z .z)) .z) .z)) .z) .z) .z))))))))), false⟩ Tryd.f45 = b_stringslite_Index := by kernel_rfl
theorem t_stringslite_IndexByte : bodyM cfgSs ⟨[], .z, false⟩ Tryd.f56 = b_stringslite_IndexByte := by kernel_rfl
theorem t_law32_awake : bodyM cfgSs ⟨[1, 3], .z, false⟩ Tryd.f15 = b_law32_awake := by kernel_rfl
theorem t_script_Parse : bodyM cfgSs ⟨[2, 4], (.n .z (.n .z (.n .z (.n .z (.n .z (.n .z (.n (.n .z (.j [(4, .l [.str, .str, .int .i64])] .z .z)) (.n (.n .z (.j [(2, .l [.int .i64, .str, .str, .int .i64, .int .i64, .int .i64, .int .i64, .slice 1])] (.j [(2, .l [.int .i64, .str, .str, .int .i64, .int .i64, .int .i64, .int .i64, .slice 1]), (49, .t)] .z .z) .z)) .z)))))))), true⟩ Tryd.f16 = b_script_Parse := by kernel_rfl
theorem t_ref32_Same : bodyM cfgSs ⟨[2, 3], .z, false⟩ Tryd.f18 = b_ref32_Same := by kernel_rfl
theorem t_law32_ScriptSames : bodyM cfgSs ⟨[2, 3], .z, false⟩ Tryd.f7 = b_law32_ScriptSames := by kernel_rfl
theorem t_script_Same : bodyM cfgSs ⟨[2, 3], .z, false⟩ Tryd.f20 = b_script_Same := by kernel_rfl
theorem t_law32_Small : bodyM cfgSs ⟨[1], .z, false⟩ Tryd.f19 = b_law32_Small := by kernel_rfl
theorem t_script_Parse_1 : bodyM cfgSs ⟨[2], .z, false⟩ Tryd.f28 = b_script_Parse_1 := by kernel_rfl
theorem t_script_find : bodyM cfgSs ⟨[2, 5], (.n .z (.n (.n .z (.j [(2, .l [.str, .str, .int .i64])] (.j [(2, .l [.str, .str, .int .i64]), (7, .v (.b (.int .i64)))] .z .z) .z)) .z)), false⟩ Tryd.f27 = b_script_find := by kernel_rfl
theorem t_script_take : bodyM cfgSs ⟨[], (.n .z (.n (.n .z (.n (.n .z (.j [(6, .v (.b (.bool)))] .z (.n .z (.j [(6, .v (.b (.bool)))] .z (.n .z (.j [(6, .v (.b (.bool)))] .z (.n .z (.j [(6, .v (.b (.bool)))] .z (.n .z (.j [(6, .v (.b (.bool)))] .z (.n .z (.j [(6, .v (.b (.bool)))] .z .z)))))))))))) .z)) .z)), false⟩ Tryd.f30 = b_script_take := by kernel_rfl
theorem t_ref01_Ints : bodyM cfgSs ⟨[], (.n .z (.n .z (.n (.n .z (.j [] (.j [(5, .v (.b (.int .i64)))] .z .z) .z)) .z))), false⟩ Tryd.f33 = b_ref01_Ints := by kernel_rfl
theorem t_slices_Equal_int_int : bodyM cfgSs ⟨[], (.n .z (.n .z (.n (.n .z (.j [] (.j [(13, .v (.b (.int .i64)))] .z .z) .z)) .z))), false⟩ Tryd.f34 = b_slices_Equal_int_int := by kernel_rfl
end
noncomputable def ren_n105_Ss : Go.Shelf.Ren := ⟨fun | 99 => 38 | 105 => 29 | 165 => 39 | 166 => 40 | 169 => 42 | 170 => 41 | 206 => 49 | 212 => 37 | 240 => 50 | 241 => 51 | 263 => 47 | 264 => 48 | 276 => 64 | 277 => 65 | n => n, fun | 0 => 0 | 3 => 3 | 4 => 4 | 5 => 5 | 9 => 9 | 20 => 20 | 37 => 29 | 46 => 66 | 51 => 84 | 53 => 87 | 70 => 70 | 71 => 71 | 72 => 72 | 74 => 74 | 75 => 75 | 76 => 76 | 80 => 79 | 109 => 67 | 127 => 90 | 146 => 85 | 148 => 88 | 164 => 100 | n => n, fun | n => n⟩
theorem lays_n105_Ss : Lays.n105 Tryd.prog ren_n105_Ss where
  mixed := by kernel_rfl
  f99 := Tryd.func38.trans (congrArg some (by kernel_rfl))
  f105 := Tryd.func29.trans (congrArg some (by kernel_rfl))
  f165 := Tryd.func39.trans (congrArg some (by kernel_rfl))
  f166 := Tryd.func40.trans (congrArg some (by kernel_rfl))
  f169 := Tryd.func42.trans (congrArg some (by kernel_rfl))
  f170 := Tryd.func41.trans (congrArg some (by kernel_rfl))
  f206 := Tryd.func49.trans (congrArg some (by kernel_rfl))
  f212 := Tryd.func37.trans (congrArg some (by kernel_rfl))
  f240 := Tryd.func50.trans (congrArg some (by kernel_rfl))
  f241 := Tryd.func51.trans (congrArg some (by kernel_rfl))
  f263 := Tryd.func47.trans (congrArg some (by kernel_rfl))
  f264 := Tryd.func48.trans (congrArg some (by kernel_rfl))
  f276 := Tryd.func64.trans (congrArg some (by kernel_rfl))
  f277 := Tryd.func65.trans (congrArg some (by kernel_rfl))
  t0 := Tryd.underlying0
  a0 := Tryd.isAgg0
  z0 := Tryd.sizeOf0
  v0 := Tryd.zeroValue0
  t3 := Tryd.underlying3
  a3 := Tryd.isAgg3
  z3 := Tryd.sizeOf3
  v3 := Tryd.zeroValue3
  t4 := Tryd.underlying4
  a4 := Tryd.isAgg4
  z4 := Tryd.sizeOf4
  v4 := Tryd.zeroValue4
  t5 := Tryd.underlying5
  a5 := Tryd.isAgg5
  z5 := Tryd.sizeOf5
  v5 := Tryd.zeroValue5
  t9 := Tryd.underlying9
  a9 := Tryd.isAgg9
  z9 := Tryd.sizeOf9
  v9 := Tryd.zeroValue9
  t20 := Tryd.underlying20
  a20 := Tryd.isAgg20
  z20 := Tryd.sizeOf20
  v20 := Tryd.zeroValue20
  t37 := Tryd.underlying29
  a37 := Tryd.isAgg29
  z37 := Tryd.sizeOf29
  v37 := Tryd.zeroValue29
  t46 := Tryd.underlying66
  a46 := Tryd.isAgg66
  z46 := Tryd.sizeOf66
  v46 := Tryd.zeroValue66
  t51 := Tryd.underlying84
  a51 := Tryd.isAgg84
  z51 := Tryd.sizeOf84
  v51 := Tryd.zeroValue84
  t53 := Tryd.underlying87
  a53 := Tryd.isAgg87
  z53 := Tryd.sizeOf87
  v53 := Tryd.zeroValue87
  t70 := Tryd.underlying70
  a70 := Tryd.isAgg70
  z70 := Tryd.sizeOf70
  v70 := Tryd.zeroValue70
  t72 := Tryd.underlying72
  a72 := Tryd.isAgg72
  z72 := Tryd.sizeOf72
  v72 := Tryd.zeroValue72
  t75 := Tryd.underlying75
  a75 := Tryd.isAgg75
  z75 := Tryd.sizeOf75
  v75 := Tryd.zeroValue75
  t76 := Tryd.underlying76
  a76 := Tryd.isAgg76
  z76 := Tryd.sizeOf76
  v76 := Tryd.zeroValue76
  t109 := Tryd.underlying67
  a109 := Tryd.isAgg67
  z109 := Tryd.sizeOf67
  v109 := Tryd.zeroValue67
  t127 := Tryd.underlying90
  a127 := Tryd.isAgg90
  z127 := Tryd.sizeOf90
  v127 := Tryd.zeroValue90
  t146 := Tryd.underlying85
  a146 := Tryd.isAgg85
  z146 := Tryd.sizeOf85
  v146 := Tryd.zeroValue85
  t148 := Tryd.underlying88
  a148 := Tryd.isAgg88
  z148 := Tryd.sizeOf88
  v148 := Tryd.zeroValue88
  t164 := Tryd.underlying100
  a164 := Tryd.isAgg100
  z164 := Tryd.sizeOf100
  v164 := Tryd.zeroValue100
theorem extra_n105_Ss : Builder.Extra Tryd.prog ren_n105_Ss where
  sizeBuilder := by kernel_rfl
  liesBuilder := by kernel_rfl
  t5 := Tryd.underlying5
  a5 := Tryd.isAgg5
  z5 := Tryd.sizeOf5
  v5 := Tryd.zeroValue5
  infoByte := by kernel_rfl
  cellsByte := by kernel_rfl
  sizeByte := by kernel_rfl
  neB5 := by decide
theorem cfgOkSs : CfgOk cfgSs := ⟨tyN_inj (by kernel_rfl), (fun t h => eqTy_guard (lkE_ok (by kernel_rfl) t h)), (fun t h _ _ _ _ _ _ w hx hy he => eqTy_run (lkE_ok (by kernel_rfl) t h) w hx hy he), tae_of (e := 115) (by kernel_rfl) (by kernel_rfl)⟩
theorem funOkSs : FunOk cfgSs := ⟨cfgOkSs, by kernel_rfl⟩
noncomputable def bdsSs : List (Nat × Body) := [(9, b_lex_Plain), (10, b_lex_blank), (11, b_lex_wrong), (50, b_digit_Read), (59, b_digit_ReadHandle), (61, b_digit_reader_number), (62, b_digit_reader_takes), (66, b_strings_Cut), (76, b_stringslite_Cut), (84, b_stringslite_Index), (88, b_stringslite_IndexByte), (89, nat_IndexByteString), (101, b_law32_awake), (102, b_script_Parse), (104, b_ref32_Same), (105, b_law32_ScriptSames), (106, b_script_Same), (107, b_law32_Small), (108, b_script_Parse_1), (109, b_script_find), (110, b_script_take), (111, lib_Repeat), (113, b_ref01_Ints), (114, b_slices_Equal_int_int)]
theorem bodiesSs : ∀ n, OracleOK cfgSs (run (bdOf bdsSs) n) :=
  seat_ok (cov := [43, 53, 52, 12, 9, 25, 24, 21, 35, 45, 56, 67, 15, 16, 18, 7, 20, 19, 28, 27, 30, 29, 33, 34]) rfl (by kernel_rfl) (List.forall_mem_cons.2 ⟨BodyOK.of_tie funOkSs Tryd.func43 (by kernel_rfl) t_lex_Plain, List.forall_mem_cons.2 ⟨BodyOK.of_tie funOkSs Tryd.func53 (by kernel_rfl) t_lex_blank, List.forall_mem_cons.2 ⟨BodyOK.of_tie funOkSs Tryd.func52 (by kernel_rfl) t_lex_wrong, List.forall_mem_cons.2 ⟨BodyOK.of_tie funOkSs Tryd.func12 (by kernel_rfl) t_digit_Read, List.forall_mem_cons.2 ⟨BodyOK.of_tie funOkSs Tryd.func9 (by kernel_rfl) t_digit_ReadHandle, List.forall_mem_cons.2 ⟨BodyOK.of_tie funOkSs Tryd.func25 (by kernel_rfl) t_digit_reader_number, List.forall_mem_cons.2 ⟨BodyOK.of_tie funOkSs Tryd.func24 (by kernel_rfl) t_digit_reader_takes, List.forall_mem_cons.2 ⟨BodyOK.of_tie funOkSs Tryd.func21 (by kernel_rfl) t_strings_Cut, List.forall_mem_cons.2 ⟨BodyOK.of_tie funOkSs Tryd.func35 (by kernel_rfl) t_stringslite_Cut, List.forall_mem_cons.2 ⟨BodyOK.of_tie funOkSs Tryd.func45 (by kernel_rfl) t_stringslite_Index, List.forall_mem_cons.2 ⟨BodyOK.of_tie funOkSs Tryd.func56 (by kernel_rfl) t_stringslite_IndexByte, List.forall_mem_cons.2 ⟨nat_IndexByteString_ok Tryd.func67 (by kernel_rfl) (by kernel_rfl) (by kernel_rfl) (by kernel_rfl), List.forall_mem_cons.2 ⟨BodyOK.of_tie funOkSs Tryd.func15 (by kernel_rfl) t_law32_awake, List.forall_mem_cons.2 ⟨BodyOK.of_tie funOkSs Tryd.func16 (by kernel_rfl) t_script_Parse, List.forall_mem_cons.2 ⟨BodyOK.of_tie funOkSs Tryd.func18 (by kernel_rfl) t_ref32_Same, List.forall_mem_cons.2 ⟨BodyOK.of_tie funOkSs Tryd.func7 (by kernel_rfl) t_law32_ScriptSames, List.forall_mem_cons.2 ⟨BodyOK.of_tie funOkSs Tryd.func20 (by kernel_rfl) t_script_Same, List.forall_mem_cons.2 ⟨BodyOK.of_tie funOkSs Tryd.func19 (by kernel_rfl) t_law32_Small, List.forall_mem_cons.2 ⟨BodyOK.of_tie funOkSs Tryd.func28 (by kernel_rfl) t_script_Parse_1, List.forall_mem_cons.2 ⟨BodyOK.of_tie funOkSs Tryd.func27 (by kernel_rfl) t_script_find, List.forall_mem_cons.2 ⟨BodyOK.of_tie funOkSs Tryd.func30 (by kernel_rfl) t_script_take, List.forall_mem_cons.2 ⟨lib_Repeat_ok lays_n105_Ss extra_n105_Ss rfl Tryd.func29 (by kernel_rfl) (by kernel_rfl), List.forall_mem_cons.2 ⟨BodyOK.of_tie funOkSs Tryd.func33 (by kernel_rfl) t_ref01_Ints, List.forall_mem_cons.2 ⟨BodyOK.of_tie funOkSs Tryd.func34 (by kernel_rfl) t_slices_Equal_int_int, (fun _ h => by cases h)⟩⟩⟩⟩⟩⟩⟩⟩⟩⟩⟩⟩⟩⟩⟩⟩⟩⟩⟩⟩⟩⟩⟩⟩)
theorem has_lex_wrong : H_lex_wrong (bdOf bdsSs) := ⟨by kernel_rfl⟩
theorem has_lex_blank : H_lex_blank (bdOf bdsSs) := ⟨by kernel_rfl⟩
theorem has_lex_Plain : H_lex_Plain (bdOf bdsSs) := ⟨by kernel_rfl, has_lex_wrong, has_lex_blank⟩
theorem has_digit_reader_takes : H_digit_reader_takes (bdOf bdsSs) := ⟨by kernel_rfl⟩
theorem has_digit_reader_number : H_digit_reader_number (bdOf bdsSs) := ⟨by kernel_rfl⟩
theorem has_digit_Read : H_digit_Read (bdOf bdsSs) := ⟨by kernel_rfl, has_digit_reader_takes, has_digit_reader_number⟩
theorem has_bytealg_IndexByteString : H_bytealg_IndexByteString (bdOf bdsSs) := ⟨by kernel_rfl⟩
theorem has_stringslite_IndexByte : H_stringslite_IndexByte (bdOf bdsSs) := ⟨by kernel_rfl, has_bytealg_IndexByteString⟩
theorem has_stringslite_Index : H_stringslite_Index (bdOf bdsSs) := ⟨by kernel_rfl, has_stringslite_IndexByte⟩
theorem has_stringslite_Cut : H_stringslite_Cut (bdOf bdsSs) := ⟨by kernel_rfl, has_stringslite_Index⟩
theorem has_strings_Cut : H_strings_Cut (bdOf bdsSs) := ⟨by kernel_rfl, has_stringslite_Cut⟩
theorem has_digit_ReadHandle : H_digit_ReadHandle (bdOf bdsSs) := ⟨by kernel_rfl, has_digit_Read, has_strings_Cut⟩
theorem has_script_find : H_script_find (bdOf bdsSs) := ⟨by kernel_rfl⟩
theorem has_script_Parse_1 : H_script_Parse_1 (bdOf bdsSs) := ⟨by kernel_rfl⟩
theorem has_strings_Repeat : H_strings_Repeat (bdOf bdsSs) := ⟨by kernel_rfl⟩
theorem has_script_take : H_script_take (bdOf bdsSs) := ⟨by kernel_rfl, has_digit_ReadHandle, has_digit_Read, has_lex_Plain⟩
theorem has_script_Parse : H_script_Parse (bdOf bdsSs) := ⟨by kernel_rfl, has_script_find, has_script_Parse_1, has_strings_Repeat, has_script_take⟩
theorem has_slices_Equal_int_int : H_slices_Equal_int_int (bdOf bdsSs) := ⟨by kernel_rfl⟩
theorem has_script_Same : H_script_Same (bdOf bdsSs) := ⟨by kernel_rfl, has_slices_Equal_int_int⟩
theorem has_law32_awake : H_law32_awake (bdOf bdsSs) := ⟨by kernel_rfl, has_script_Parse, has_script_Same⟩
theorem has_ref01_Ints : H_ref01_Ints (bdOf bdsSs) := ⟨by kernel_rfl⟩
theorem has_ref32_Same : H_ref32_Same (bdOf bdsSs) := ⟨by kernel_rfl, has_ref01_Ints⟩
theorem has_law32_Small : H_law32_Small (bdOf bdsSs) := ⟨by kernel_rfl⟩
theorem has_law32_ScriptSames : H_law32_ScriptSames (bdOf bdsSs) := ⟨by kernel_rfl, has_law32_awake, has_ref32_Same, has_law32_Small, has_script_Same⟩
end Go.Gv
