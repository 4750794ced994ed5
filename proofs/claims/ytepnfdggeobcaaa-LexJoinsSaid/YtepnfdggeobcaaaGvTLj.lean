/- The ties of a seat: written by gvseat.py. -/
import Derived.Test.YtepnfdggeobcaaaGvSeat
import Derived.Test.YtepnfdggeobcaaaGvBLaa
import Derived.Test.YtepnfdggeobcaaaGvBLj
import Derived.Test.YtepnfdggeobcaaaProg
namespace Go.Gv
open Go.Proofs
set_option maxRecDepth 100000
noncomputable section
def cfgLj : Cfg := ⟨Try.prog, lkN [(6, 1), (7, 2), (8, 3), (9, 4), (10, 6), (5, 7), (12, 8), (11, 9), (14, 10), (13, 11), (15, 12), (16, 13), (17, 14), (18, 15), (22, 19)], has [6, 7, 8, 9, 10, 5, 12, 11, 14, 13, 15, 16, 17, 18, 22], tyN [(9, 0)], fun g => g, fun _ => false, fun _ => []⟩
theorem t_law31_awake : bodyM cfgLj ⟨[], .z, false⟩ Try.f6 = b_law31_awake := by kernel_rfl
theorem t_lex_Words : bodyM cfgLj ⟨[], (.n .z (.n .z (.n (.n .z (.j [(4, .v (.b (.int .i64)))] (.j [(4, .v (.b (.int .i64))), (14, .t)] (.n .z (.n .z (.n (.n .z (.n .z (.n .z (.j [(4, .v (.b (.int .i64)))] .z .z)))) .z))) .z) .z)) (.n .z (.n .z (.n (.n .z (.j [(7, .v (.b (.slice 1))), (8, .v (.b (.int .i64)))] (.j [(7, .v (.b (.slice 1))), (8, .v (.b (.int .i64))), (29, .t)] (.n .z (.n .z (.n (.n .z (.n (.n .z (.j [(7, .v (.b (.slice 1))), (8, .v (.b (.int .i64)))] .z (.n .z (.j [(7, .v (.b (.slice 1))), (8, .v (.b (.int .i64)))] .z .z)))) .z)) .z))) .z) .z)) (.n (.n .z (.j [(7, .v (.b (.slice 1)))] .z .z)) .z))))))), true⟩ Try.f7 = b_lex_Words := by kernel_rfl
theorem t_ref31_Words : bodyM cfgLj ⟨[], (.n .z (.n .z (.n (.n .z (.j [] (.j [(5, .v (.b (.int .i64)))] .z .z) .z)) (.n .z (.n .z (.n (.n .z (.j [(6, .v (.b (.slice 1)))] (.j [(6, .v (.b (.slice 1))), (7, .v (.b (.str))), (8, .v (.b (.int .i64)))] (.n .z (.n (.n (.n .z (.j [(6, .v (.b (.slice 1))), (7, .v (.b (.str)))] (.n (.n .z (.j [(6, .v (.b (.slice 1)))] .z .z)) .z) .z)) .z) .z)) .z) .z)) .z)))))), true⟩ Try.f8 = b_ref31_Words := by kernel_rfl
theorem t_ref31_Same : bodyM cfgLj ⟨[], (.n .z (.n .z (.n (.n .z (.j [] (.j [(5, .v (.b (.int .i64)))] .z .z) .z)) .z))), false⟩ Try.f9 = b_ref31_Same := by kernel_rfl
theorem t_ref31_Plain : bodyM cfgLj ⟨[], .z, false⟩ Try.f10 = b_ref31_Plain := by kernel_rfl
theorem t_law31_LexJoins : bodyM cfgLj ⟨[], (.n .z (.n .z (.n .z (.n (.n .z (.j [(3, .v (.b (.bool)))] (.j [(3, .v (.b (.bool))), (4, .v (.b (.int .i64)))] .z .z) .z)) .z)))), false⟩ Try.f5 = b_law31_LexJoins := by kernel_rfl
theorem t_lex_Join : bodyM cfgLj ⟨[], (.n .z (.n .z (.n (.n .z (.j [] (.j [(11, .v (.b (.int .i64)))] .z .z) .z)) .z))), false⟩ Try.f12 = b_lex_Join := by kernel_rfl
theorem t_lex_Plain : bodyM cfgLj ⟨[], (.n .z (.n (.n .z (.j [] (.j [(6, .t)] .z .z) .z)) .z)), false⟩ Try.f11 = b_lex_Plain := by kernel_rfl
theorem t_lex_blank : bodyM cfgLj ⟨[], .z, false⟩ Try.f14 = b_lex_blank := by kernel_rfl
theorem t_lex_wrong : bodyM cfgLj ⟨[], .z, false⟩ Try.f13 = b_lex_wrong := by kernel_rfl
theorem t_ref04_Runes : bodyM cfgLj ⟨[], (.n .z (.n .z (.n (.j [(3, .v (.b (.slice 1)))] (.j [(0, .v (.b (.str))), (3, .v (.b (.slice 1)))] .z .z) .z) .z))), true⟩ Try.f15 = b_ref04_Runes := by kernel_rfl
theorem t_ref31_Wrong : bodyM cfgLj ⟨[], .z, false⟩ Try.f16 = b_ref31_Wrong := by kernel_rfl
theorem t_ref04_First : bodyM cfgLj ⟨[], (.n .z (.n .z (.n .z (.n (.n (.n .z (.n .z (.n .z (.n .z (.n .z (.j [] (.n (.n .z (.j [(5, .v (.b (.int .u8)))] .z .z)) (.n (.n .z (.j [(6, .v (.b (.int .u8)))] .z .z)) .z)) (.n .z (.j [] (.n (.n .z (.j [(5, .v (.b (.int .u8)))] .z .z)) (.n (.n .z (.j [(6, .v (.b (.int .u8)))] .z .z)) .z)) .z)))))))) .z) .z)))), false⟩ Try.f18 = b_ref04_First := by kernel_rfl
theorem t_ref04_follows : bodyM cfgLj ⟨[], .z, false⟩ Try.f22 = b_ref04_follows := by kernel_rfl
end
noncomputable def ren_n156_Lj : Go.Shelf.Ren := ⟨fun | 156 => 17 | 165 => 19 | 166 => 20 | 169 => 21 | 240 => 23 | 241 => 24 | 276 => 25 | 277 => 26 | n => n, fun | 0 => 0 | 3 => 3 | 4 => 4 | 5 => 5 | 9 => 9 | 20 => 20 | 31 => 23 | 37 => 43 | 70 => 42 | 71 => 44 | 72 => 45 | 74 => 47 | 75 => 48 | 76 => 49 | 80 => 51 | 127 => 53 | 164 => 54 | n => n, fun | n => n⟩
theorem lays_n156_Lj : Lays.n156 Try.prog ren_n156_Lj where
  mixed := by kernel_rfl
  f156 := Try.func17.trans (congrArg some (by kernel_rfl))
  f165 := Try.func19.trans (congrArg some (by kernel_rfl))
  f166 := Try.func20.trans (congrArg some (by kernel_rfl))
  f169 := Try.func21.trans (congrArg some (by kernel_rfl))
  f240 := Try.func23.trans (congrArg some (by kernel_rfl))
  f241 := Try.func24.trans (congrArg some (by kernel_rfl))
  f276 := Try.func25.trans (congrArg some (by kernel_rfl))
  f277 := Try.func26.trans (congrArg some (by kernel_rfl))
  t0 := Try.underlying0
  a0 := Try.isAgg0
  z0 := Try.sizeOf0
  v0 := Try.zeroValue0
  t3 := Try.underlying3
  a3 := Try.isAgg3
  z3 := Try.sizeOf3
  v3 := Try.zeroValue3
  t4 := Try.underlying4
  a4 := Try.isAgg4
  z4 := Try.sizeOf4
  v4 := Try.zeroValue4
  t9 := Try.underlying9
  a9 := Try.isAgg9
  z9 := Try.sizeOf9
  v9 := Try.zeroValue9
  t20 := Try.underlying20
  a20 := Try.isAgg20
  z20 := Try.sizeOf20
  v20 := Try.zeroValue20
  t31 := Try.underlying23
  a31 := Try.isAgg23
  z31 := Try.sizeOf23
  v31 := Try.zeroValue23
  t37 := Try.underlying43
  a37 := Try.isAgg43
  z37 := Try.sizeOf43
  v37 := Try.zeroValue43
  t70 := Try.underlying42
  a70 := Try.isAgg42
  z70 := Try.sizeOf42
  v70 := Try.zeroValue42
  t72 := Try.underlying45
  a72 := Try.isAgg45
  z72 := Try.sizeOf45
  v72 := Try.zeroValue45
  t75 := Try.underlying48
  a75 := Try.isAgg48
  z75 := Try.sizeOf48
  v75 := Try.zeroValue48
  t76 := Try.underlying49
  a76 := Try.isAgg49
  z76 := Try.sizeOf49
  v76 := Try.zeroValue49
  t127 := Try.underlying53
  a127 := Try.isAgg53
  z127 := Try.sizeOf53
  v127 := Try.zeroValue53
  t164 := Try.underlying54
  a164 := Try.isAgg54
  z164 := Try.sizeOf54
  v164 := Try.zeroValue54
theorem extra_n156_Lj : Builder.Extra Try.prog ren_n156_Lj where
  sizeBuilder := by kernel_rfl
  liesBuilder := by kernel_rfl
  t5 := Try.underlying5
  a5 := Try.isAgg5
  z5 := Try.sizeOf5
  v5 := Try.zeroValue5
  infoByte := by kernel_rfl
  cellsByte := by kernel_rfl
  sizeByte := by kernel_rfl
  neB5 := by decide
theorem cfgOkLj : CfgOk cfgLj := ⟨tyN_inj (by kernel_rfl), (fun _ h => absurd rfl h), (fun _ h => absurd rfl h), tae_of (e := 58) (by kernel_rfl) (by kernel_rfl)⟩
theorem funOkLj : FunOk cfgLj := ⟨cfgOkLj, by kernel_rfl⟩
noncomputable def bdsLj : List (Nat × Body) := [(1, b_law31_awake), (2, b_lex_Words), (3, b_ref31_Words), (4, b_ref31_Same), (6, b_ref31_Plain), (7, b_law31_LexJoins), (8, b_lex_Join), (9, b_lex_Plain), (10, b_lex_blank), (11, b_lex_wrong), (12, b_ref04_Runes), (13, b_ref31_Wrong), (14, lib_Join), (15, b_ref04_First), (19, b_ref04_follows)]
theorem bodiesLj : ∀ n, OracleOK cfgLj (run (bdOf bdsLj) n) :=
  seat_ok (cov := [6, 7, 8, 9, 10, 5, 12, 11, 14, 13, 15, 16, 17, 18, 22]) rfl (by kernel_rfl) (List.forall_mem_cons.2 ⟨BodyOK.of_tie funOkLj Try.func6 (by kernel_rfl) t_law31_awake, List.forall_mem_cons.2 ⟨BodyOK.of_tie funOkLj Try.func7 (by kernel_rfl) t_lex_Words, List.forall_mem_cons.2 ⟨BodyOK.of_tie funOkLj Try.func8 (by kernel_rfl) t_ref31_Words, List.forall_mem_cons.2 ⟨BodyOK.of_tie funOkLj Try.func9 (by kernel_rfl) t_ref31_Same, List.forall_mem_cons.2 ⟨BodyOK.of_tie funOkLj Try.func10 (by kernel_rfl) t_ref31_Plain, List.forall_mem_cons.2 ⟨BodyOK.of_tie funOkLj Try.func5 (by kernel_rfl) t_law31_LexJoins, List.forall_mem_cons.2 ⟨BodyOK.of_tie funOkLj Try.func12 (by kernel_rfl) t_lex_Join, List.forall_mem_cons.2 ⟨BodyOK.of_tie funOkLj Try.func11 (by kernel_rfl) t_lex_Plain, List.forall_mem_cons.2 ⟨BodyOK.of_tie funOkLj Try.func14 (by kernel_rfl) t_lex_blank, List.forall_mem_cons.2 ⟨BodyOK.of_tie funOkLj Try.func13 (by kernel_rfl) t_lex_wrong, List.forall_mem_cons.2 ⟨BodyOK.of_tie funOkLj Try.func15 (by kernel_rfl) t_ref04_Runes, List.forall_mem_cons.2 ⟨BodyOK.of_tie funOkLj Try.func16 (by kernel_rfl) t_ref31_Wrong, List.forall_mem_cons.2 ⟨lib_Join_ok lays_n156_Lj extra_n156_Lj rfl Try.func17 (by kernel_rfl) (by kernel_rfl), List.forall_mem_cons.2 ⟨BodyOK.of_tie funOkLj Try.func18 (by kernel_rfl) t_ref04_First, List.forall_mem_cons.2 ⟨BodyOK.of_tie funOkLj Try.func22 (by kernel_rfl) t_ref04_follows, (fun _ h => by cases h)⟩⟩⟩⟩⟩⟩⟩⟩⟩⟩⟩⟩⟩⟩⟩)
theorem has_lex_wrong : H_lex_wrong (bdOf bdsLj) := ⟨by kernel_rfl⟩
theorem has_lex_blank : H_lex_blank (bdOf bdsLj) := ⟨by kernel_rfl⟩
theorem has_lex_Words : H_lex_Words (bdOf bdsLj) := ⟨by kernel_rfl, has_lex_wrong, has_lex_blank⟩
theorem has_lex_Plain : H_lex_Plain (bdOf bdsLj) := ⟨by kernel_rfl, has_lex_wrong, has_lex_blank⟩
theorem has_law31_awake : H_law31_awake (bdOf bdsLj) := ⟨by kernel_rfl, has_lex_Words, has_lex_Plain⟩
theorem has_ref04_follows : H_ref04_follows (bdOf bdsLj) := ⟨by kernel_rfl⟩
theorem has_ref04_First : H_ref04_First (bdOf bdsLj) := ⟨by kernel_rfl, has_ref04_follows⟩
theorem has_ref04_Runes : H_ref04_Runes (bdOf bdsLj) := ⟨by kernel_rfl, has_ref04_First⟩
theorem has_ref31_Wrong : H_ref31_Wrong (bdOf bdsLj) := ⟨by kernel_rfl⟩
theorem has_ref31_Words : H_ref31_Words (bdOf bdsLj) := ⟨by kernel_rfl, has_ref04_Runes, has_ref31_Wrong⟩
theorem has_ref31_Same : H_ref31_Same (bdOf bdsLj) := ⟨by kernel_rfl⟩
theorem has_ref31_Plain : H_ref31_Plain (bdOf bdsLj) := ⟨by kernel_rfl, has_ref31_Words⟩
theorem has_strings_Join : H_strings_Join (bdOf bdsLj) := ⟨by kernel_rfl⟩
theorem has_lex_Join : H_lex_Join (bdOf bdsLj) := ⟨by kernel_rfl, has_lex_Plain, has_strings_Join⟩
theorem has_law31_LexJoins : H_law31_LexJoins (bdOf bdsLj) := ⟨by kernel_rfl, has_law31_awake, has_lex_Words, has_ref31_Same, has_ref31_Plain, has_lex_Plain, has_lex_Join⟩
end Go.Gv
