/- The ties of a seat: written by gvseat.py. -/
import Derived.Test.YtepnfdggeobcaaaGvSeat
import Derived.Test.YtepnfdggeobcaaaGvBLaa
import Derived.Test.YtepnfdggeobcaaaProg
namespace Go.Gv
open Go.Proofs
set_option maxRecDepth 100000
noncomputable section
def cfgLaa : Cfg := ⟨Try.prog, lkN [(3, 0), (6, 1), (7, 2), (8, 3), (9, 4), (4, 5), (10, 6), (11, 9), (14, 10), (13, 11), (15, 12), (16, 13), (18, 15), (22, 19)], has [3, 6, 7, 8, 9, 4, 10, 11, 14, 13, 15, 16, 18, 22], tyN [(9, 0)], fun g => g, fun _ => false, fun _ => false⟩
theorem t_law31_LexWords : bodyM cfgLaa ⟨[], .z, false⟩ Try.f3 = b_law31_LexWords := by kernel_rfl
theorem t_law31_awake : bodyM cfgLaa ⟨[], .z, false⟩ Try.f6 = b_law31_awake := by kernel_rfl
theorem t_lex_Words : bodyM cfgLaa ⟨[], (.n .z (.n .z (.n (.n .z (.j [(4, .v (.b (.int .i64)))] (.j [(4, .v (.b (.int .i64))), (14, .t)] (.n .z (.n .z (.n (.n .z (.n .z (.n .z (.j [(4, .v (.b (.int .i64)))] .z .z)))) .z))) .z) .z)) (.n .z (.n .z (.n (.n .z (.j [(7, .v (.b (.slice 1))), (8, .v (.b (.int .i64)))] (.j [(7, .v (.b (.slice 1))), (8, .v (.b (.int .i64))), (29, .t)] (.n .z (.n .z (.n (.n .z (.n (.n .z (.j [(7, .v (.b (.slice 1))), (8, .v (.b (.int .i64)))] .z (.n .z (.j [(7, .v (.b (.slice 1))), (8, .v (.b (.int .i64)))] .z .z)))) .z)) .z))) .z) .z)) (.n (.n .z (.j [(7, .v (.b (.slice 1)))] .z .z)) .z))))))), true⟩ Try.f7 = b_lex_Words := by kernel_rfl
theorem t_ref31_Words : bodyM cfgLaa ⟨[], (.n .z (.n .z (.n (.n .z (.j [] (.j [(5, .v (.b (.int .i64)))] .z .z) .z)) (.n .z (.n .z (.n (.n .z (.j [(6, .v (.b (.slice 1)))] (.j [(6, .v (.b (.slice 1))), (7, .v (.b (.str))), (8, .v (.b (.int .i64)))] (.n .z (.n (.n (.n .z (.j [(6, .v (.b (.slice 1))), (7, .v (.b (.str)))] (.n (.n .z (.j [(6, .v (.b (.slice 1)))] .z .z)) .z) .z)) .z) .z)) .z) .z)) .z)))))), true⟩ Try.f8 = b_ref31_Words := by kernel_rfl
theorem t_ref31_Same : bodyM cfgLaa ⟨[], (.n .z (.n .z (.n (.n .z (.j [] (.j [(5, .v (.b (.int .i64)))] .z .z) .z)) .z))), false⟩ Try.f9 = b_ref31_Same := by kernel_rfl
theorem t_law31_LexBlanks : bodyM cfgLaa ⟨[], (.n .z (.n .z (.n .z (.n (.n .z (.j [(7, .v (.b (.str)))] (.j [(7, .v (.b (.str))), (8, .v (.b (.int .i64)))] (.n .z (.n (.j [(7, .v (.b (.str)))] (.n .z (.n .z (.n (.n .z (.j [(7, .v (.b (.str)))] (.j [(7, .v (.b (.str))), (9, .v (.b (.int .i64)))] (.n .z (.n (.n (.n .z (.j [(7, .v (.b (.str)))] .z .z)) .z) .z)) .z) .z)) .z))) .z) .z)) .z) .z)) .z)))), false⟩ Try.f4 = b_law31_LexBlanks := by kernel_rfl
theorem t_ref31_Plain : bodyM cfgLaa ⟨[], .z, false⟩ Try.f10 = b_ref31_Plain := by kernel_rfl
theorem t_lex_Plain : bodyM cfgLaa ⟨[], (.n .z (.n (.n .z (.j [] (.j [(6, .t)] .z .z) .z)) .z)), false⟩ Try.f11 = b_lex_Plain := by kernel_rfl
theorem t_lex_blank : bodyM cfgLaa ⟨[], .z, false⟩ Try.f14 = b_lex_blank := by kernel_rfl
theorem t_lex_wrong : bodyM cfgLaa ⟨[], .z, false⟩ Try.f13 = b_lex_wrong := by kernel_rfl
theorem t_ref04_Runes : bodyM cfgLaa ⟨[], (.n .z (.n .z (.n (.j [(3, .v (.b (.slice 1)))] (.j [(0, .v (.b (.str))), (3, .v (.b (.slice 1)))] .z .z) .z) .z))), true⟩ Try.f15 = b_ref04_Runes := by kernel_rfl
theorem t_ref31_Wrong : bodyM cfgLaa ⟨[], .z, false⟩ Try.f16 = b_ref31_Wrong := by kernel_rfl
theorem t_ref04_First : bodyM cfgLaa ⟨[], (.n .z (.n .z (.n .z (.n (.n (.n .z (.n .z (.n .z (.n .z (.n .z (.j [] (.n (.n .z (.j [(5, .v (.b (.int .u8)))] .z .z)) (.n (.n .z (.j [(6, .v (.b (.int .u8)))] .z .z)) .z)) (.n .z (.j [] (.n (.n .z (.j [(5, .v (.b (.int .u8)))] .z .z)) (.n (.n .z (.j [(6, .v (.b (.int .u8)))] .z .z)) .z)) .z)))))))) .z) .z)))), false⟩ Try.f18 = b_ref04_First := by kernel_rfl
theorem t_ref04_follows : bodyM cfgLaa ⟨[], .z, false⟩ Try.f22 = b_ref04_follows := by kernel_rfl
end
theorem cfgOkLaa : CfgOk cfgLaa := ⟨tyN_inj (by kernel_rfl), (fun _ h => by cases h), (fun _ h => by cases h), tae_of (e := 58) (by kernel_rfl) (by kernel_rfl)⟩
theorem funOkLaa : FunOk cfgLaa := ⟨cfgOkLaa, by kernel_rfl⟩
noncomputable def bdsLaa : List (Nat × Body) := [(0, b_law31_LexWords), (1, b_law31_awake), (2, b_lex_Words), (3, b_ref31_Words), (4, b_ref31_Same), (5, b_law31_LexBlanks), (6, b_ref31_Plain), (9, b_lex_Plain), (10, b_lex_blank), (11, b_lex_wrong), (12, b_ref04_Runes), (13, b_ref31_Wrong), (15, b_ref04_First), (19, b_ref04_follows)]
theorem bodiesLaa : ∀ n, OracleOK cfgLaa (run (bdOf bdsLaa) n) :=
  seat_ok (cov := [3, 6, 7, 8, 9, 4, 10, 11, 14, 13, 15, 16, 18, 22]) rfl (by kernel_rfl) (List.forall_mem_cons.2 ⟨BodyOK.of_tie funOkLaa Try.func3 (by kernel_rfl) t_law31_LexWords, List.forall_mem_cons.2 ⟨BodyOK.of_tie funOkLaa Try.func6 (by kernel_rfl) t_law31_awake, List.forall_mem_cons.2 ⟨BodyOK.of_tie funOkLaa Try.func7 (by kernel_rfl) t_lex_Words, List.forall_mem_cons.2 ⟨BodyOK.of_tie funOkLaa Try.func8 (by kernel_rfl) t_ref31_Words, List.forall_mem_cons.2 ⟨BodyOK.of_tie funOkLaa Try.func9 (by kernel_rfl) t_ref31_Same, List.forall_mem_cons.2 ⟨BodyOK.of_tie funOkLaa Try.func4 (by kernel_rfl) t_law31_LexBlanks, List.forall_mem_cons.2 ⟨BodyOK.of_tie funOkLaa Try.func10 (by kernel_rfl) t_ref31_Plain, List.forall_mem_cons.2 ⟨BodyOK.of_tie funOkLaa Try.func11 (by kernel_rfl) t_lex_Plain, List.forall_mem_cons.2 ⟨BodyOK.of_tie funOkLaa Try.func14 (by kernel_rfl) t_lex_blank, List.forall_mem_cons.2 ⟨BodyOK.of_tie funOkLaa Try.func13 (by kernel_rfl) t_lex_wrong, List.forall_mem_cons.2 ⟨BodyOK.of_tie funOkLaa Try.func15 (by kernel_rfl) t_ref04_Runes, List.forall_mem_cons.2 ⟨BodyOK.of_tie funOkLaa Try.func16 (by kernel_rfl) t_ref31_Wrong, List.forall_mem_cons.2 ⟨BodyOK.of_tie funOkLaa Try.func18 (by kernel_rfl) t_ref04_First, List.forall_mem_cons.2 ⟨BodyOK.of_tie funOkLaa Try.func22 (by kernel_rfl) t_ref04_follows, (fun _ h => by cases h)⟩⟩⟩⟩⟩⟩⟩⟩⟩⟩⟩⟩⟩⟩)
theorem has_lex_wrong : H_lex_wrong (bdOf bdsLaa) := ⟨by kernel_rfl⟩
theorem has_lex_blank : H_lex_blank (bdOf bdsLaa) := ⟨by kernel_rfl⟩
theorem has_lex_Words : H_lex_Words (bdOf bdsLaa) := ⟨by kernel_rfl, has_lex_wrong, has_lex_blank⟩
theorem has_lex_Plain : H_lex_Plain (bdOf bdsLaa) := ⟨by kernel_rfl, has_lex_wrong, has_lex_blank⟩
theorem has_law31_awake : H_law31_awake (bdOf bdsLaa) := ⟨by kernel_rfl, has_lex_Words, has_lex_Plain⟩
theorem has_ref04_follows : H_ref04_follows (bdOf bdsLaa) := ⟨by kernel_rfl⟩
theorem has_ref04_First : H_ref04_First (bdOf bdsLaa) := ⟨by kernel_rfl, has_ref04_follows⟩
theorem has_ref04_Runes : H_ref04_Runes (bdOf bdsLaa) := ⟨by kernel_rfl, has_ref04_First⟩
theorem has_ref31_Wrong : H_ref31_Wrong (bdOf bdsLaa) := ⟨by kernel_rfl⟩
theorem has_ref31_Words : H_ref31_Words (bdOf bdsLaa) := ⟨by kernel_rfl, has_ref04_Runes, has_ref31_Wrong⟩
theorem has_ref31_Same : H_ref31_Same (bdOf bdsLaa) := ⟨by kernel_rfl⟩
theorem has_law31_LexWords : H_law31_LexWords (bdOf bdsLaa) := ⟨by kernel_rfl, has_law31_awake, has_lex_Words, has_ref31_Words, has_ref31_Same⟩
theorem has_ref31_Plain : H_ref31_Plain (bdOf bdsLaa) := ⟨by kernel_rfl, has_ref31_Words⟩
theorem has_law31_LexBlanks : H_law31_LexBlanks (bdOf bdsLaa) := ⟨by kernel_rfl, has_law31_awake, has_lex_Words, has_ref31_Words, has_ref31_Same, has_ref31_Plain⟩
end Go.Gv
