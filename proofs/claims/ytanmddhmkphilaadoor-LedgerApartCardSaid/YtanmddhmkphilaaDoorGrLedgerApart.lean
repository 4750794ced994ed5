/- The row of the law LedgerApart, and its tied card: for every input that can be read, the law's call returns true and leaves what was there as it was, the listed tables being as the program's text lays them. No other condition. Written by gvrowd.py. -/
import Derived.Test.YtanmddhmkphilaaDoorRows
import Derived.Test.YtanmddhmkphilaaDoorTie
import Derived.Test.YtanmddhmkphilaaDoorCards
import Derived.Test.YtanmddhmkphilaaDoorGvZLaw
import Derived.Test.YtanmddhmkphilaaDoorGvTLg
import Derived.Test.YtanmddhmkphilaaDoorGvZPg
namespace Go.Proofs.YtanmddhmkphilaaDoor.ledgerApart
open Go.Gv
set_option maxRecDepth 100000
theorem met (W : World) (h : laidMetH Tryd.prog Rows.ledgerApartRow.laid W) : ∃ ψ, OI cfgLg W tabs ψ ∧ Glob cfgLg ψ :=
  tabs_OI (C := cfgLg) (laid := Rows.ledgerApartRow.laid) h (by kernel_rfl) tabs_frz [(2, 4), (3, 5), (4, 1), (6, 2)] (List.forall_mem_cons.2 ⟨⟨by kernel_rfl, "unicode/utf8.first", Rows.laid_unicode_utf8_first, _, _, List.mem_of_getElem? (i := 4) rfl, by kernel_rfl, rfl, rfl, by kernel_rfl, by kernel_rfl⟩, (List.forall_mem_cons.2 ⟨⟨by kernel_rfl, "unicode/utf8.acceptRanges", Rows.laid_unicode_utf8_acceptRanges, _, _, List.mem_of_getElem? (i := 3) rfl, by kernel_rfl, rfl, rfl, by kernel_rfl, by kernel_rfl⟩, (List.forall_mem_cons.2 ⟨⟨by kernel_rfl, "internal/strconv.uint64pow10", Rows.laid_internal_strconv_uint64pow10, _, _, List.mem_of_getElem? (i := 2) rfl, by kernel_rfl, rfl, rfl, by kernel_rfl, by kernel_rfl⟩, (List.forall_mem_cons.2 ⟨⟨by kernel_rfl, "math/bits.deBruijn64tab", Rows.laid_math_bits_deBruijn64tab, _, _, List.mem_of_getElem? (i := 1) rfl, by kernel_rfl, rfl, rfl, by kernel_rfl, by kernel_rfl⟩, (fun _ h => by cases h)⟩)⟩)⟩)⟩)
    (fun g hg => of_decide_eq_true (has_all (P := fun g => decide (([(2, 4), (3, 5), (4, 1), (6, 2)] : List (Nat × Nat)).find? (fun x => Nat.beq x.2 (cfgLg.gl g)) = some (g, cfgLg.gl g))) (l := [2, 3, 4, 6]) (by kernel_rfl) g hg))
theorem lifted (os : Os) (started : os.Started) (H : Type) (enc : TypeId × Value → H) :
    ReturnsInHanded {} Tryd.checked os 5 .any (fun w args => (Rows.ledgerApartSpec.pre enc Tryd.prog Tryd.f5 [] false w args ∧ laidMetH Tryd.prog Rows.ledgerApartRow.laid w) ∧ sizedMet enc Tryd.prog Tryd.f5 (OpenSpec.ofChange Rows.ledgerApartSpec) false w args)
      (Rows.ledgerApartSpec.post enc Tryd.prog Tryd.f5 false true false false) :=
  law_lifted_laid (C := cfgLg) (Ck := Tryd.checked) rfl started (by kernel_rfl) (by kernel_rfl) Tryd.func5 (by kernel_rfl) rfl rfl Tryd.underlying4 (by kernel_rfl)
    (fun ds h => by
      have h' : ds.length = 2 := h
      match ds, h' with
      | [d0, d1], _ => exact ⟨rfl, rfl, rfl⟩)
    (ChangeSpec.witness_shaped (enc := enc) (C := Tryd.checked) (os := os) (X := fun w _ => laidMetH Tryd.prog Rows.ledgerApartRow.laid w) false (World.laidAll Tryd.prog os Rows.ledgerApartRow.laid) #[.agg #[.int .i64 0, .int .i64 0, .int .i64 0, .slice none 0 0, .slice none 0 0, .slice none 0 0], .agg #[.int .i64 0, .int .i64 0, .int .i64 0, .slice none 0 0, .slice none 0 0, .slice none 0 0]] 8 (World.laidAll_os _ _ _)
      (World.shaped_of_ZipB (by kernel_rfl) (by kernel_rfl)) (by kernel_rfl) (by kernel_rfl) (by kernel_rfl)
      (by rw [MakeChecks.laidMetH_plain _ _ _ (by kernel_rfl)]; exact laidMet_laidAll _ (by kernel_rfl) (by kernel_rfl)))
    (fun W args ds p base hL hval hA => by
      obtain ⟨ψ, I, G⟩ := met W hL
      exact law_calls (Bd := bdOf bdsLg) bodiesLg (f := 5) (by kernel_rfl) Tryd.func5 (by kernel_rfl) (by kernel_rfl) I G (tys := [(true, (.pr (.pr (.i .i64) (.pr (.i .i64) (.pr (.i .i64) .un))) (.pr (.sl (.pr .s (.pr (.sl (.pr (.pr (.i .i64) (.pr (.i .i64) .un)) (.pr (.i .i64) (.pr (.i .i64) .un)))) .un))) (.pr (.sl (.i .i64)) (.pr (.sl (.i .i64)) .un))))), (true, (.pr (.pr (.i .i64) (.pr (.i .i64) (.pr (.i .i64) .un))) (.pr (.sl (.pr .s (.pr (.sl (.pr (.pr (.i .i64) (.pr (.i .i64) .un)) (.pr (.i .i64) (.pr (.i .i64) .un)))) .un))) (.pr (.sl (.i .i64)) (.pr (.sl (.i .i64)) .un)))))]) (by kernel_rfl)
        (fun s args hf ht hr => F.law_law33_LedgerApart has_law33_LedgerApart s args hf ht hr) hval hA)
theorem over : Rows.ledgerApartRow.holds Tryd.pinned (OpenSpec.ofChange Rows.ledgerApartSpec) :=
  OpenClaim.holds_of_wide 5 Tryd.f5 rfl rfl rfl rfl rfl rfl rfl ⟨rfl, rfl, rfl, rfl, rfl⟩ rfl rfl rfl rfl rfl (by kernel_rfl) Tryd.func5 (by kernel_rfl)
    (of_decide_eq_true (by kernel_rfl)) (by unfold Func.isWrapper; first | (rw [if_pos (by decide +kernel)]; kernel_rfl) | (rw [if_neg (by decide +kernel)]; exact ⟨rfl, rfl⟩))
    (fun os started H enc _ => lifted os started H enc)
end Go.Proofs.YtanmddhmkphilaaDoor.ledgerApart
namespace Go.Proofs.YtanmddhmkphilaaDoor
theorem ledgerApart_card_holds : Rows.LedgerApartCardSaid :=
  Claim7.holds_tied_plain_at .later [] [.data, .data, .data, .data, .pinned] true (true, "10a4d32f936104b4d5e60b06d1bb08995e89810ddbc472bf8eced8744183060e") false ledgerApart.over (fun _ h => by cases h) (by kernel_rfl) (fun _ h => by cases h) ledgerApart_row_tie rfl ⟨rfl, rfl⟩ (by kernel_rfl) rfl
    (fun f fn hf hfn => by
      obtain rfl : f = 5 := Option.some.inj ((show Tryd.prog.funcNamed "rickyard/rickyardlaw33.LedgerApart" = some 5 by kernel_rfl).symm.trans hf) |>.symm
      obtain rfl : fn = Tryd.f5 := (Option.some.inj (Tryd.func5.symm.trans hfn)).symm
      exact ⟨by kernel_rfl, Gv.noStandIn (l := [40, 40]) rfl (by kernel_rfl)⟩)
    (by kernel_rfl)
#print axioms ledgerApart_card_holds
end Go.Proofs.YtanmddhmkphilaaDoor
