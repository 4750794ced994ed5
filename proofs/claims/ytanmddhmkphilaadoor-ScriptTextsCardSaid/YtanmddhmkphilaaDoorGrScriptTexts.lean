/- The row of the law ScriptTexts, and its tied card: for every input that can be read, the law's call returns true and leaves what was there as it was, the listed tables being as the program's text lays them. No other condition. Written by gvrowd.py. -/
import Derived.Test.YtanmddhmkphilaaDoorRows
import Derived.Test.YtanmddhmkphilaaDoorTie
import Derived.Test.YtanmddhmkphilaaDoorCards
import Derived.Test.YtanmddhmkphilaaDoorGvZLaw
import Derived.Test.YtanmddhmkphilaaDoorGvTSw
import Derived.Test.YtanmddhmkphilaaDoorGvPLaw32b
namespace Go.Proofs.YtanmddhmkphilaaDoor.scriptTexts
open Go.Gv
set_option maxRecDepth 100000
theorem met (W : World) (h : laidMetH Tryd.prog Rows.scriptTextsRow.laid W) : ∃ ψ, OI cfgSw W tabs ψ ∧ Glob cfgSw ψ :=
  tabs_OI (C := cfgSw) (laid := Rows.scriptTextsRow.laid) h (by kernel_rfl) tabs_frz [(0, 0), (2, 4), (3, 5), (4, 1), (6, 2)] (List.forall_mem_cons.2 ⟨⟨by kernel_rfl, "rickyard/script.commands", Rows.laid_rickyard_script_commands, _, _, List.mem_of_getElem? (i := 4) rfl, by kernel_rfl, rfl, rfl, by kernel_rfl, by kernel_rfl⟩, (List.forall_mem_cons.2 ⟨⟨by kernel_rfl, "unicode/utf8.first", Rows.laid_unicode_utf8_first, _, _, List.mem_of_getElem? (i := 5) rfl, by kernel_rfl, rfl, rfl, by kernel_rfl, by kernel_rfl⟩, (List.forall_mem_cons.2 ⟨⟨by kernel_rfl, "unicode/utf8.acceptRanges", Rows.laid_unicode_utf8_acceptRanges, _, _, List.mem_of_getElem? (i := 3) rfl, by kernel_rfl, rfl, rfl, by kernel_rfl, by kernel_rfl⟩, (List.forall_mem_cons.2 ⟨⟨by kernel_rfl, "internal/strconv.uint64pow10", Rows.laid_internal_strconv_uint64pow10, _, _, List.mem_of_getElem? (i := 2) rfl, by kernel_rfl, rfl, rfl, by kernel_rfl, by kernel_rfl⟩, (List.forall_mem_cons.2 ⟨⟨by kernel_rfl, "math/bits.deBruijn64tab", Rows.laid_math_bits_deBruijn64tab, _, _, List.mem_of_getElem? (i := 1) rfl, by kernel_rfl, rfl, rfl, by kernel_rfl, by kernel_rfl⟩, (fun _ h => by cases h)⟩)⟩)⟩)⟩)⟩)
    (fun g hg => of_decide_eq_true (has_all (P := fun g => decide (([(0, 0), (2, 4), (3, 5), (4, 1), (6, 2)] : List (Nat × Nat)).find? (fun x => Nat.beq x.2 (cfgSw.gl g)) = some (g, cfgSw.gl g))) (l := [0, 2, 3, 4, 6]) (by kernel_rfl) g hg))
theorem lifted (os : Os) (started : os.Started) (H : Type) (enc : TypeId × Value → H) :
    ReturnsInHanded {} Tryd.checked os 7 .any (fun w args => (Rows.scriptTextsSpec.pre enc Tryd.prog Tryd.f7 [] false w args ∧ laidMetH Tryd.prog Rows.scriptTextsRow.laid w) ∧ sizedMet enc Tryd.prog Tryd.f7 (OpenSpec.ofChange Rows.scriptTextsSpec) false w args)
      (Rows.scriptTextsSpec.post enc Tryd.prog Tryd.f7 false true false false) :=
  law_lifted_laid (C := cfgSw) (Ck := Tryd.checked) rfl started (by kernel_rfl) (by kernel_rfl) Tryd.func7 (by kernel_rfl) rfl rfl Tryd.underlying4 (by kernel_rfl)
    (fun ds h => by
      have h' : ds.length = 1 := h
      match ds, h' with
      | [d0], _ => exact ⟨rfl, rfl, rfl⟩)
    (ChangeSpec.witness_shaped (enc := enc) (C := Tryd.checked) (os := os) (X := fun w _ => laidMetH Tryd.prog Rows.scriptTextsRow.laid w) false (World.laidAll Tryd.prog os Rows.scriptTextsRow.laid) #[.slice none 0 0] 8 (World.laidAll_os _ _ _)
      (World.shaped_of_ZipB (by kernel_rfl) (by kernel_rfl)) (by kernel_rfl) (by kernel_rfl) (by kernel_rfl)
      (by rw [MakeChecks.laidMetH_plain _ _ _ (by kernel_rfl)]; exact laidMet_laidAll _ (by kernel_rfl) (by kernel_rfl)))
    (fun W args ds p base hL hval hA => by
      obtain ⟨ψ, I, G⟩ := met W hL
      exact law_calls (Bd := bdOf bdsSw) bodiesSw (f := 7) (by kernel_rfl) Tryd.func7 (by kernel_rfl) (by kernel_rfl) I G (tys := [(false, (.sl (.pr (.i .i64) (.pr .s (.pr .s (.pr (.pr (.i .i64) (.pr (.i .i64) .un)) (.pr (.i .i64) (.pr (.i .i64) (.pr (.sl (.i .i64)) .un)))))))))]) (by kernel_rfl)
        (fun s args hf ht hr => F.law_law32_ScriptTexts has_law32_ScriptTexts s args hf ht hr) hval hA)
theorem over : Rows.scriptTextsRow.holds Tryd.pinned (OpenSpec.ofChange Rows.scriptTextsSpec) :=
  OpenClaim.holds_of_wide 7 Tryd.f7 rfl rfl rfl rfl rfl rfl rfl ⟨rfl, rfl, rfl, rfl, rfl⟩ rfl rfl rfl rfl rfl (by kernel_rfl) Tryd.func7 (by kernel_rfl)
    (of_decide_eq_true (by kernel_rfl)) (by unfold Func.isWrapper; first | (rw [if_pos (by decide +kernel)]; kernel_rfl) | (rw [if_neg (by decide +kernel)]; exact ⟨rfl, rfl⟩))
    (fun os started H enc _ => lifted os started H enc)
end Go.Proofs.YtanmddhmkphilaaDoor.scriptTexts
namespace Go.Proofs.YtanmddhmkphilaaDoor
theorem scriptTexts_card_holds : Rows.ScriptTextsCardSaid :=
  Claim7.holds_tied_plain_at .later [] [.data, .data, .data, .data, .data, .pinned] true (true, "10a4d32f936104b4d5e60b06d1bb08995e89810ddbc472bf8eced8744183060e") false scriptTexts.over (fun _ h => by cases h) (by kernel_rfl) (fun _ h => by cases h) scriptTexts_row_tie rfl ⟨rfl, rfl⟩ (by kernel_rfl) rfl
    (fun f fn hf hfn => by
      obtain rfl : f = 7 := Option.some.inj ((show Tryd.prog.funcNamed "rickyard/rickyardlaw32.ScriptTexts" = some 7 by kernel_rfl).symm.trans hf) |>.symm
      obtain rfl : fn = Tryd.f7 := (Option.some.inj (Tryd.func7.symm.trans hfn)).symm
      exact ⟨by kernel_rfl, Gv.noStandIn (l := [23]) rfl (by kernel_rfl)⟩)
    (by kernel_rfl)
#print axioms scriptTexts_card_holds
end Go.Proofs.YtanmddhmkphilaaDoor
