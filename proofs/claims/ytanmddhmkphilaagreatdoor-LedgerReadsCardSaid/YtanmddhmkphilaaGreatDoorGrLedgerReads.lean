/- The row of the law LedgerReads, and its tied card: for every input that can be read, the law's call returns true and leaves what was there as it was, the listed tables being as the program's text lays them. No other condition. Written by gvrowd.py. -/
import Derived.Test.YtanmddhmkphilaaGreatDoorRows
import Derived.Test.YtanmddhmkphilaaGreatDoorTie
import Derived.Test.YtanmddhmkphilaaGreatDoorCards
import Derived.Test.YtanmddhmkphilaaGreatDoorGvZLaw
import Derived.Test.YtanmddhmkphilaaGreatDoorGvTLz
import Derived.Test.YtanmddhmkphilaaGreatDoorGvZPg
namespace Go.Proofs.YtanmddhmkphilaaGreatDoor.ledgerReads
open Go.Gv
set_option maxRecDepth 100000
theorem met (W : World) (h : laidMetH Tryz.prog Rows.ledgerReadsRow.laid W) : ∃ ψ, OI cfgLz W tabs ψ ∧ Glob cfgLz ψ :=
  tabs_OI (C := cfgLz) (laid := Rows.ledgerReadsRow.laid) h (by kernel_rfl) tabs_frz [(1, 4), (2, 5), (3, 1), (5, 2)] (List.forall_mem_cons.2 ⟨⟨by kernel_rfl, "unicode/utf8.first", Rows.laid_unicode_utf8_first, _, _, List.mem_of_getElem? (i := 4) rfl, by kernel_rfl, rfl, rfl, by kernel_rfl, by kernel_rfl⟩, (List.forall_mem_cons.2 ⟨⟨by kernel_rfl, "unicode/utf8.acceptRanges", Rows.laid_unicode_utf8_acceptRanges, _, _, List.mem_of_getElem? (i := 3) rfl, by kernel_rfl, rfl, rfl, by kernel_rfl, by kernel_rfl⟩, (List.forall_mem_cons.2 ⟨⟨by kernel_rfl, "internal/strconv.uint64pow10", Rows.laid_internal_strconv_uint64pow10, _, _, List.mem_of_getElem? (i := 2) rfl, by kernel_rfl, rfl, rfl, by kernel_rfl, by kernel_rfl⟩, (List.forall_mem_cons.2 ⟨⟨by kernel_rfl, "math/bits.deBruijn64tab", Rows.laid_math_bits_deBruijn64tab, _, _, List.mem_of_getElem? (i := 1) rfl, by kernel_rfl, rfl, rfl, by kernel_rfl, by kernel_rfl⟩, (fun _ h => by cases h)⟩)⟩)⟩)⟩)
    (fun g hg => of_decide_eq_true (has_all (P := fun g => decide (([(1, 4), (2, 5), (3, 1), (5, 2)] : List (Nat × Nat)).find? (fun x => Nat.beq x.2 (cfgLz.gl g)) = some (g, cfgLz.gl g))) (l := [1, 2, 3, 5]) (by kernel_rfl) g hg))
theorem lifted (os : Os) (started : os.Started) (H : Type) (enc : TypeId × Value → H) :
    ReturnsInHanded {} Tryz.checked os 3 .any (fun w args => (Rows.ledgerReadsSpec.pre enc Tryz.prog Tryz.f3 [] false w args ∧ laidMetH Tryz.prog Rows.ledgerReadsRow.laid w) ∧ sizedMet enc Tryz.prog Tryz.f3 (OpenSpec.ofChange Rows.ledgerReadsSpec) false w args)
      (Rows.ledgerReadsSpec.post enc Tryz.prog Tryz.f3 false true false false) :=
  law_lifted_laid (C := cfgLz) (Ck := Tryz.checked) rfl started (by kernel_rfl) (by kernel_rfl) Tryz.func3 (by kernel_rfl) rfl rfl Tryz.underlying4 (by kernel_rfl)
    (fun ds h => by
      have h' : ds.length = 1 := h
      match ds, h' with
      | [d0], _ => exact ⟨rfl, rfl, rfl⟩)
    (ChangeSpec.witness_shaped (enc := enc) (C := Tryz.checked) (os := os) (X := fun w _ => laidMetH Tryz.prog Rows.ledgerReadsRow.laid w) false (World.laidAll Tryz.prog os Rows.ledgerReadsRow.laid) #[.string ByteArray.empty] 8 (World.laidAll_os _ _ _)
      (World.shaped_of_ZipB (by kernel_rfl) (by kernel_rfl)) (by kernel_rfl) (by kernel_rfl) (by kernel_rfl)
      (by rw [MakeChecks.laidMetH_plain _ _ _ (by kernel_rfl)]; exact laidMet_laidAll _ (by kernel_rfl) (by kernel_rfl)))
    (fun W args ds p base hL hval hA => by
      obtain ⟨ψ, I, G⟩ := met W hL
      exact law_calls (Bd := bdOf bdsLz) bodiesLz (f := 3) (by kernel_rfl) Tryz.func3 (by kernel_rfl) (by kernel_rfl) I G (tys := [(false, .s)]) (by kernel_rfl)
        (fun s args hf ht hr => F.law_law33_LedgerReads has_law33_LedgerReads s args hf ht hr) hval hA)
theorem over : Rows.ledgerReadsRow.holds Tryz.pinned (OpenSpec.ofChange Rows.ledgerReadsSpec) :=
  OpenClaim.holds_of_wide 3 Tryz.f3 rfl rfl rfl rfl rfl rfl rfl ⟨rfl, rfl, rfl, rfl, rfl⟩ rfl rfl rfl rfl rfl (by kernel_rfl) Tryz.func3 (by kernel_rfl)
    (of_decide_eq_true (by kernel_rfl)) (by unfold Func.isWrapper; first | (rw [if_pos (by decide +kernel)]; kernel_rfl) | (rw [if_neg (by decide +kernel)]; exact ⟨rfl, rfl⟩))
    (fun os started H enc _ => lifted os started H enc)
end Go.Proofs.YtanmddhmkphilaaGreatDoor.ledgerReads
namespace Go.Proofs.YtanmddhmkphilaaGreatDoor
theorem ledgerReads_card_holds : Rows.LedgerReadsCardSaid :=
  Claim7.holds_tied_plain_at .later [] [.data, .data, .data, .data, .pinned] true (true, "0fc43b712a607d1372f487df39cfd0822b8c799d9a986be4198d0cf3ba865e70") false ledgerReads.over (fun _ h => by cases h) (by kernel_rfl) (fun _ h => by cases h) ledgerReads_row_tie rfl ⟨rfl, rfl⟩ (by kernel_rfl) rfl
    (fun f fn hf hfn => by
      obtain rfl : f = 3 := Option.some.inj ((show Tryz.prog.funcNamed "rickyard/rickyardlaw33.LedgerReads" = some 3 by kernel_rfl).symm.trans hf) |>.symm
      obtain rfl : fn = Tryz.f3 := (Option.some.inj (Tryz.func3.symm.trans hfn)).symm
      exact ⟨by kernel_rfl, Gv.noStandIn (l := [9]) rfl (by kernel_rfl)⟩)
    (by kernel_rfl)
#print axioms ledgerReads_card_holds
end Go.Proofs.YtanmddhmkphilaaGreatDoor
