/- The ties of a seat: written by gvseat.py. -/
import Derived.Test.YtepnfdggeobcaaaDoorGvSeat
import Derived.Test.YtepnfdggeobcaaaDoorGvBDi
import Derived.Test.YtepnfdggeobcaaaDoorGvBLaa
import Derived.Test.YtepnfdggeobcaaaDoorGvBLs
import Derived.Test.YtepnfdggeobcaaaDoorProg
namespace Go.Gv
open Go.Proofs
set_option maxRecDepth 100000
noncomputable section
def cfgLs : Cfg := ⟨Tryd.prog, lkN [(25, 1), (41, 2), (44, 3), (26, 4), (42, 9), (53, 10), (52, 11), (20, 12), (55, 13), (38, 15), (50, 19), (9, 42), (27, 43), (28, 44), (29, 45), (30, 46), (43, 58), (54, 65), (63, 73), (65, 74), (64, 75), (72, 81), (73, 82), (74, 83), (75, 84), (78, 87), (79, 88), (83, 89)], has [25, 41, 44, 26, 42, 53, 52, 20, 55, 38, 50, 9, 27, 28, 29, 30, 43, 54, 63, 65, 64, 72, 73, 74, 75, 78, 79, 83], tyN [(9, 0)], lkN [(4, 4), (5, 5)], has [4, 5], fun _ => []⟩
theorem t_law31_awake : bodyM cfgLs ⟨[], .z, false⟩ Tryd.f25 = b_law31_awake := by kernel_rfl
theorem t_lex_Words : bodyM cfgLs ⟨[], (.n .z (.n .z (.n (.n .z (.j [(4, .v (.b (.int .i64)))] (.j [(4, .v (.b (.int .i64))), (14, .t)] (.n .z (.n .z (.n (.n .z (.n .z (.n .z (.j [(4, .v (.b (.int .i64)))] .z .z)))) .z))) .z) .z)) (.n .z (.n .z (.n (.n .z (.j [(7, .v (.b (.slice 1))), (8, .v (.b (.int .i64)))] (.j [(7, .v (.b (.slice 1))), (8, .v (.b (.int .i64))), (29, .t)] (.n .z (.n .z (.n (.n .z (.n (.n .z (.j [(7, .v (.b (.slice 1))), (8, .v (.b (.int .i64)))] .z (.n .z (.j [(7, .v (.b (.slice 1))), (8, .v (.b (.int .i64)))] .z .z)))) .z)) .z))) .z) .z)) (.n (.n .z (.j [(7, .v (.b (.slice 1)))] .z .z)) .z))))))), true⟩ Tryd.f41 = b_lex_Words := by kernel_rfl
theorem t_ref31_Words : bodyM cfgLs ⟨[], (.n .z (.n .z (.n (.n .z (.j [] (.j [(5, .v (.b (.int .i64)))] .z .z) .z)) (.n .z (.n .z (.n (.n .z (.j [(6, .v (.b (.slice 1)))] (.j [(6, .v (.b (.slice 1))), (7, .v (.b (.str))), (8, .v (.b (.int .i64)))] (.n .z (.n (.n (.n .z (.j [(6, .v (.b (.slice 1))), (7, .v (.b (.str)))] (.n (.n .z (.j [(6, .v (.b (.slice 1)))] .z .z)) .z) .z)) .z) .z)) .z) .z)) .z)))))), true⟩ Tryd.f44 = b_ref31_Words := by kernel_rfl
theorem t_ref31_Same : bodyM cfgLs ⟨[], (.n .z (.n .z (.n (.n .z (.j [] (.j [(5, .v (.b (.int .i64)))] .z .z) .z)) .z))), false⟩ Tryd.f26 = b_ref31_Same := by kernel_rfl
theorem t_lex_Plain : bodyM cfgLs ⟨[], (.n .z (.n (.n .z (.j [] (.j [(6, .t)] .z .z) .z)) .z)), false⟩ Tryd.f42 = b_lex_Plain := by kernel_rfl
theorem t_lex_blank : bodyM cfgLs ⟨[], .z, false⟩ Tryd.f53 = b_lex_blank := by kernel_rfl
theorem t_lex_wrong : bodyM cfgLs ⟨[], .z, false⟩ Tryd.f52 = b_lex_wrong := by kernel_rfl
theorem t_ref04_Runes : bodyM cfgLs ⟨[], (.n .z (.n .z (.n (.j [(3, .v (.b (.slice 1)))] (.j [(0, .v (.b (.str))), (3, .v (.b (.slice 1)))] .z .z) .z) .z))), true⟩ Tryd.f20 = b_ref04_Runes := by kernel_rfl
theorem t_ref31_Wrong : bodyM cfgLs ⟨[], .z, false⟩ Tryd.f55 = b_ref31_Wrong := by kernel_rfl
theorem t_ref04_First : bodyM cfgLs ⟨[], (.n .z (.n .z (.n .z (.n (.n (.n .z (.n .z (.n .z (.n .z (.n .z (.j [] (.n (.n .z (.j [(5, .v (.b (.int .u8)))] .z .z)) (.n (.n .z (.j [(6, .v (.b (.int .u8)))] .z .z)) .z)) (.n .z (.j [] (.n (.n .z (.j [(5, .v (.b (.int .u8)))] .z .z)) (.n (.n .z (.j [(6, .v (.b (.int .u8)))] .z .z)) .z)) .z)))))))) .z) .z)))), false⟩ Tryd.f38 = b_ref04_First := by kernel_rfl
theorem t_ref04_follows : bodyM cfgLs ⟨[], .z, false⟩ Tryd.f50 = b_ref04_follows := by kernel_rfl
theorem t_law31_LexSplits : bodyM cfgLs ⟨[], (.n .z (.n .z (.n .z (.n .z (.n .z (.n .z (.n (.n .z (.j [] (.j [(9, .v (.b (.int .i64)))] .z .z) .z)) .z))))))), false⟩ Tryd.f9 = b_law31_LexSplits := by kernel_rfl
theorem t_lex_Lines : bodyM cfgLs ⟨[], .z, true⟩ Tryd.f27 = b_lex_Lines := by kernel_rfl
theorem t_ref31_Lines : bodyM cfgLs ⟨[], (.n .z (.n .z (.n .z (.n (.n .z (.j [(3, .v (.b (.slice 1))), (4, .v (.b (.str)))] (.j [(3, .v (.b (.slice 1))), (4, .v (.b (.str))), (5, .v (.b (.int .i64)))] (.n .z (.n (.n (.n .z (.j [(3, .v (.b (.slice 1))), (4, .v (.b (.str)))] .z .z)) .z) .z)) .z) .z)) .z)))), true⟩ Tryd.f28 = b_ref31_Lines := by kernel_rfl
theorem t_lex_Split : bodyM cfgLs ⟨[], (.n .z (.n .z (.n .z (.n (.n .z (.j [(5, .v (.b (.slice 1)))] (.j [(5, .v (.b (.slice 1))), (16, .v (.b (.int .i64)))] .z .z) .z)) .z)))), true⟩ Tryd.f29 = b_lex_Split := by kernel_rfl
theorem t_ref31_Split : bodyM cfgLs ⟨[], (.n .z (.n .z (.n .z (.n .z (.n (.n .z (.j [(5, .v (.b (.slice 1)))] (.j [(5, .v (.b (.slice 1))), (7, .v (.b (.int .i64)))] .z .z) .z)) .z))))), true⟩ Tryd.f30 = b_ref31_Split := by kernel_rfl
theorem t_strings_Split : bodyM cfgLs ⟨[], .z, true⟩ Tryd.f43 = b_strings_Split := by kernel_rfl
theorem t_strings_genSplit : bodyM cfgLs ⟨[], (.n .z (.n .z (.n .z (.n (.n .z (.j [(3, .v (.b (.int .i64)))] .z .z)) (.n .z (.n .z (.n .z (.n .z (.n (.j [(0, .v (.b (.str))), (10, .v (.b (.int .i64)))] (.j [(0, .v (.b (.str))), (10, .v (.b (.int .i64)))] .z .z) .z) .z))))))))), true⟩ Tryd.f54 = b_strings_genSplit := by kernel_rfl
theorem t_strings_explode : bodyM cfgLs ⟨[], (.n .z (.n .z (.n (.n .z (.j [(1, .v (.b (.int .i64)))] .z .z)) (.n .z (.n (.n .z (.j [(0, .v (.b (.str)))] (.j [(0, .v (.b (.str))), (7, .v (.b (.int .i64)))] .z .z) .z)) (.n (.n .z (.j [] .z .z)) .z)))))), true⟩ Tryd.f63 = b_strings_explode := by kernel_rfl
theorem t_strings_Index : bodyM cfgLs ⟨[], .z, false⟩ Tryd.f65 = b_strings_Index := by kernel_rfl
theorem t_strings_Count : bodyM cfgLs ⟨[], (.n .z (.n .z (.n .z (.n .z (.n (.j [(0, .v (.b (.str))), (5, .v (.b (.int .i64)))] .z .z) .z))))), false⟩ Tryd.f64 = b_strings_Count := by kernel_rfl
theorem t_utf8_RuneCountInString : bodyM cfgLs ⟨[], (.n .z (.n (.n .z (.j [(2, .v (.b (.int .i64)))] (.j [(2, .v (.b (.int .i64))), (4, .t)] .z .z) .z)) .z)), false⟩ Tryd.f72 = b_utf8_RuneCountInString := by kernel_rfl
theorem t_utf8_DecodeRuneInString : bodyM cfgLs ⟨[], .z, false⟩ Tryd.f73 = b_utf8_DecodeRuneInString := by kernel_rfl
theorem t_stringslite_Index : bodyM cfgLs ⟨[], (.n .z (.n .z (.n .z (.n .z (.n .z (.n .z (.n .z (.n .z (.n (.j [] (.j [(8, .v (.b (.int .i64))), (10, .v (.b (.int .i64)))] (.n .z (.n (.n (.n .z (.j [(8, .v (.b (.int .i64)))] .z .z)) .z) .z)) .z) .z) .z))))))))), false⟩ Tryd.f75 = b_stringslite_Index := by kernel_rfl
theorem t_utf8_decodeRuneInStringSlow : bodyM cfgLs ⟨[9], .z, false⟩ Tryd.f78 = b_utf8_decodeRuneInStringSlow := by kernel_rfl
theorem t_stringslite_IndexByte : bodyM cfgLs ⟨[], .z, false⟩ Tryd.f79 = b_stringslite_IndexByte := by kernel_rfl
end
theorem cfgOkLs : CfgOk cfgLs := ⟨tyN_inj (by kernel_rfl), (fun _ h => absurd rfl h), (fun _ h => absurd rfl h), tae_of (e := 105) (by kernel_rfl) (by kernel_rfl)⟩
theorem funOkLs : FunOk cfgLs := ⟨cfgOkLs, by kernel_rfl⟩
noncomputable def bdsLs : List (Nat × Body) := [(1, b_law31_awake), (2, b_lex_Words), (3, b_ref31_Words), (4, b_ref31_Same), (9, b_lex_Plain), (10, b_lex_blank), (11, b_lex_wrong), (12, b_ref04_Runes), (13, b_ref31_Wrong), (15, b_ref04_First), (19, b_ref04_follows), (42, b_law31_LexSplits), (43, b_lex_Lines), (44, b_ref31_Lines), (45, b_lex_Split), (46, b_ref31_Split), (58, b_strings_Split), (65, b_strings_genSplit), (73, b_strings_explode), (74, b_strings_Index), (75, b_strings_Count), (81, b_utf8_RuneCountInString), (82, b_utf8_DecodeRuneInString), (83, nat_CountString), (84, b_stringslite_Index), (87, b_utf8_decodeRuneInStringSlow), (88, b_stringslite_IndexByte), (89, nat_IndexByteString)]
theorem bodiesLs : ∀ n, OracleOK cfgLs (run (bdOf bdsLs) n) :=
  seat_ok (cov := [25, 41, 44, 26, 42, 53, 52, 20, 55, 38, 50, 9, 27, 28, 29, 30, 43, 54, 63, 65, 64, 72, 73, 74, 75, 78, 79, 83]) rfl (by kernel_rfl) (List.forall_mem_cons.2 ⟨BodyOK.of_tie funOkLs Tryd.func25 (by kernel_rfl) t_law31_awake, List.forall_mem_cons.2 ⟨BodyOK.of_tie funOkLs Tryd.func41 (by kernel_rfl) t_lex_Words, List.forall_mem_cons.2 ⟨BodyOK.of_tie funOkLs Tryd.func44 (by kernel_rfl) t_ref31_Words, List.forall_mem_cons.2 ⟨BodyOK.of_tie funOkLs Tryd.func26 (by kernel_rfl) t_ref31_Same, List.forall_mem_cons.2 ⟨BodyOK.of_tie funOkLs Tryd.func42 (by kernel_rfl) t_lex_Plain, List.forall_mem_cons.2 ⟨BodyOK.of_tie funOkLs Tryd.func53 (by kernel_rfl) t_lex_blank, List.forall_mem_cons.2 ⟨BodyOK.of_tie funOkLs Tryd.func52 (by kernel_rfl) t_lex_wrong, List.forall_mem_cons.2 ⟨BodyOK.of_tie funOkLs Tryd.func20 (by kernel_rfl) t_ref04_Runes, List.forall_mem_cons.2 ⟨BodyOK.of_tie funOkLs Tryd.func55 (by kernel_rfl) t_ref31_Wrong, List.forall_mem_cons.2 ⟨BodyOK.of_tie funOkLs Tryd.func38 (by kernel_rfl) t_ref04_First, List.forall_mem_cons.2 ⟨BodyOK.of_tie funOkLs Tryd.func50 (by kernel_rfl) t_ref04_follows, List.forall_mem_cons.2 ⟨BodyOK.of_tie funOkLs Tryd.func9 (by kernel_rfl) t_law31_LexSplits, List.forall_mem_cons.2 ⟨BodyOK.of_tie funOkLs Tryd.func27 (by kernel_rfl) t_lex_Lines, List.forall_mem_cons.2 ⟨BodyOK.of_tie funOkLs Tryd.func28 (by kernel_rfl) t_ref31_Lines, List.forall_mem_cons.2 ⟨BodyOK.of_tie funOkLs Tryd.func29 (by kernel_rfl) t_lex_Split, List.forall_mem_cons.2 ⟨BodyOK.of_tie funOkLs Tryd.func30 (by kernel_rfl) t_ref31_Split, List.forall_mem_cons.2 ⟨BodyOK.of_tie funOkLs Tryd.func43 (by kernel_rfl) t_strings_Split, List.forall_mem_cons.2 ⟨BodyOK.of_tie funOkLs Tryd.func54 (by kernel_rfl) t_strings_genSplit, List.forall_mem_cons.2 ⟨BodyOK.of_tie funOkLs Tryd.func63 (by kernel_rfl) t_strings_explode, List.forall_mem_cons.2 ⟨BodyOK.of_tie funOkLs Tryd.func65 (by kernel_rfl) t_strings_Index, List.forall_mem_cons.2 ⟨BodyOK.of_tie funOkLs Tryd.func64 (by kernel_rfl) t_strings_Count, List.forall_mem_cons.2 ⟨BodyOK.of_tie funOkLs Tryd.func72 (by kernel_rfl) t_utf8_RuneCountInString, List.forall_mem_cons.2 ⟨BodyOK.of_tie funOkLs Tryd.func73 (by kernel_rfl) t_utf8_DecodeRuneInString, List.forall_mem_cons.2 ⟨nat_CountString_ok Tryd.func74 (by kernel_rfl) (by kernel_rfl) (by kernel_rfl) (by kernel_rfl), List.forall_mem_cons.2 ⟨BodyOK.of_tie funOkLs Tryd.func75 (by kernel_rfl) t_stringslite_Index, List.forall_mem_cons.2 ⟨BodyOK.of_tie funOkLs Tryd.func78 (by kernel_rfl) t_utf8_decodeRuneInStringSlow, List.forall_mem_cons.2 ⟨BodyOK.of_tie funOkLs Tryd.func79 (by kernel_rfl) t_stringslite_IndexByte, List.forall_mem_cons.2 ⟨nat_IndexByteString_ok Tryd.func83 (by kernel_rfl) (by kernel_rfl) (by kernel_rfl) (by kernel_rfl), (fun _ h => by cases h)⟩⟩⟩⟩⟩⟩⟩⟩⟩⟩⟩⟩⟩⟩⟩⟩⟩⟩⟩⟩⟩⟩⟩⟩⟩⟩⟩⟩)
theorem has_lex_wrong : H_lex_wrong (bdOf bdsLs) := ⟨by kernel_rfl⟩
theorem has_lex_blank : H_lex_blank (bdOf bdsLs) := ⟨by kernel_rfl⟩
theorem has_lex_Words : H_lex_Words (bdOf bdsLs) := ⟨by kernel_rfl, has_lex_wrong, has_lex_blank⟩
theorem has_lex_Plain : H_lex_Plain (bdOf bdsLs) := ⟨by kernel_rfl, has_lex_wrong, has_lex_blank⟩
theorem has_law31_awake : H_law31_awake (bdOf bdsLs) := ⟨by kernel_rfl, has_lex_Words, has_lex_Plain⟩
theorem has_ref04_follows : H_ref04_follows (bdOf bdsLs) := ⟨by kernel_rfl⟩
theorem has_ref04_First : H_ref04_First (bdOf bdsLs) := ⟨by kernel_rfl, has_ref04_follows⟩
theorem has_ref04_Runes : H_ref04_Runes (bdOf bdsLs) := ⟨by kernel_rfl, has_ref04_First⟩
theorem has_ref31_Wrong : H_ref31_Wrong (bdOf bdsLs) := ⟨by kernel_rfl⟩
theorem has_ref31_Words : H_ref31_Words (bdOf bdsLs) := ⟨by kernel_rfl, has_ref04_Runes, has_ref31_Wrong⟩
theorem has_ref31_Same : H_ref31_Same (bdOf bdsLs) := ⟨by kernel_rfl⟩
theorem has_utf8_RuneCountInString : H_utf8_RuneCountInString (bdOf bdsLs) := ⟨by kernel_rfl⟩
theorem has_utf8_decodeRuneInStringSlow : H_utf8_decodeRuneInStringSlow (bdOf bdsLs) := ⟨by kernel_rfl⟩
theorem has_utf8_DecodeRuneInString : H_utf8_DecodeRuneInString (bdOf bdsLs) := ⟨by kernel_rfl, has_utf8_decodeRuneInStringSlow⟩
theorem has_strings_explode : H_strings_explode (bdOf bdsLs) := ⟨by kernel_rfl, has_utf8_RuneCountInString, has_utf8_DecodeRuneInString⟩
theorem has_bytealg_IndexByteString : H_bytealg_IndexByteString (bdOf bdsLs) := ⟨by kernel_rfl⟩
theorem has_stringslite_IndexByte : H_stringslite_IndexByte (bdOf bdsLs) := ⟨by kernel_rfl, has_bytealg_IndexByteString⟩
theorem has_stringslite_Index : H_stringslite_Index (bdOf bdsLs) := ⟨by kernel_rfl, has_stringslite_IndexByte⟩
theorem has_strings_Index : H_strings_Index (bdOf bdsLs) := ⟨by kernel_rfl, has_stringslite_Index⟩
theorem has_bytealg_CountString : H_bytealg_CountString (bdOf bdsLs) := ⟨by kernel_rfl⟩
theorem has_strings_Count : H_strings_Count (bdOf bdsLs) := ⟨by kernel_rfl, has_strings_Index, has_utf8_RuneCountInString, has_bytealg_CountString⟩
theorem has_strings_genSplit : H_strings_genSplit (bdOf bdsLs) := ⟨by kernel_rfl, has_strings_explode, has_strings_Count, has_strings_Index⟩
theorem has_strings_Split : H_strings_Split (bdOf bdsLs) := ⟨by kernel_rfl, has_strings_genSplit⟩
theorem has_lex_Lines : H_lex_Lines (bdOf bdsLs) := ⟨by kernel_rfl, has_strings_Split⟩
theorem has_ref31_Lines : H_ref31_Lines (bdOf bdsLs) := ⟨by kernel_rfl⟩
theorem has_lex_Split : H_lex_Split (bdOf bdsLs) := ⟨by kernel_rfl, has_lex_Lines, has_lex_Words⟩
theorem has_ref31_Split : H_ref31_Split (bdOf bdsLs) := ⟨by kernel_rfl, has_ref31_Lines, has_ref31_Words⟩
theorem has_law31_LexSplits : H_law31_LexSplits (bdOf bdsLs) := ⟨by kernel_rfl, has_law31_awake, has_ref31_Same, has_lex_Lines, has_ref31_Lines, has_lex_Split, has_ref31_Split⟩
end Go.Gv
