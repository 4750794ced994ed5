/- The row of the law LexSplits, and its tied card: for every input that can be read, the law's call returns true and leaves what was there as it was, the listed tables being as the program's text lays them. No other condition. Written by gvrowd.py. -/
import Derived.Test.YtepnfdggeobcaaaDoorRows
import Derived.Test.YtepnfdggeobcaaaDoorTie
import Derived.Test.YtepnfdggeobcaaaDoorCards
import Derived.Test.YtepnfdggeobcaaaDoorGvLawD
import Derived.Test.YtepnfdggeobcaaaDoorGvTabs
import Derived.Test.YtepnfdggeobcaaaDoorGvTLs
import Derived.Test.YtepnfdggeobcaaaDoorGvPLines
namespace Go.Proofs.YtepnfdggeobcaaaDoor.lexSplits
open Go.Gv
set_option maxRecDepth 100000
theorem met (W : World) (h : laidMetH Tryd.prog Rows.lexSplitsRow.laid W) : ∃ ψ, OI cfgLs W tabs ψ ∧ Glob cfgLs ψ :=
  tabs_OI (C := cfgLs) (laid := Rows.lexSplitsRow.laid) h (by kernel_rfl) tabs_frz [(4, 4), (5, 5)] (List.forall_mem_cons.2 ⟨⟨by kernel_rfl, "unicode/utf8.first", Rows.laid_unicode_utf8_first, _, _, List.mem_of_getElem? (i := 1) rfl, by kernel_rfl, rfl, rfl, by kernel_rfl, by kernel_rfl⟩, (List.forall_mem_cons.2 ⟨⟨by kernel_rfl, "unicode/utf8.acceptRanges", Rows.laid_unicode_utf8_acceptRanges, _, _, List.mem_of_getElem? (i := 0) rfl, by kernel_rfl, rfl, rfl, by kernel_rfl, by kernel_rfl⟩, (fun _ h => by cases h)⟩)⟩)
    (fun g hg => of_decide_eq_true (has_all (P := fun g => decide (([(4, 4), (5, 5)] : List (Nat × Nat)).find? (fun x => Nat.beq x.2 (cfgLs.gl g)) = some (g, cfgLs.gl g))) (l := [4, 5]) (by kernel_rfl) g hg))
theorem lifted (os : Os) (started : os.Started) (H : Type) (enc : TypeId × Value → H) :
    ReturnsInHanded {} Tryd.checked os 9 .any (fun w args => (Rows.lexSplitsSpec.pre enc Tryd.prog Tryd.f9 [] false w args ∧ laidMetH Tryd.prog Rows.lexSplitsRow.laid w) ∧ sizedMet enc Tryd.prog Tryd.f9 (OpenSpec.ofChange Rows.lexSplitsSpec) false w args)
      (Rows.lexSplitsSpec.post enc Tryd.prog Tryd.f9 false true false false) :=
  law_lifted_laid (C := cfgLs) (Ck := Tryd.checked) rfl started (by kernel_rfl) (by kernel_rfl) Tryd.func9 (by kernel_rfl) rfl rfl Tryd.underlying4 (by kernel_rfl)
    (fun ds h => by
      have h' : ds.length = 1 := h
      match ds, h' with
      | [d0], _ => exact ⟨rfl, rfl, rfl⟩)
    (ChangeSpec.witness_shaped (enc := enc) (C := Tryd.checked) (os := os) (X := fun w _ => laidMetH Tryd.prog Rows.lexSplitsRow.laid w) false (World.laidAll Tryd.prog os Rows.lexSplitsRow.laid) #[.string ByteArray.empty] 8 (World.laidAll_os _ _ _)
      (World.shaped_of_ZipB (by kernel_rfl) (by kernel_rfl)) (by kernel_rfl) (by kernel_rfl) (by kernel_rfl)
      (by rw [MakeChecks.laidMetH_plain _ _ _ (by kernel_rfl)]; exact laidMet_laidAll _ (by kernel_rfl) (by kernel_rfl)))
    (fun W args ds p base hL hval hA => by
      obtain ⟨ψ, I, G⟩ := met W hL
      exact law_calls (Bd := bdOf bdsLs) bodiesLs (f := 9) (by kernel_rfl) Tryd.func9 (by kernel_rfl) (by kernel_rfl) I G (tys := [(false, .s)]) (by kernel_rfl)
        (fun s args hf ht hr => F.law_law31_LexSplits has_law31_LexSplits s args hf ht hr) hval hA)
theorem over : Rows.lexSplitsRow.holds Tryd.pinned (OpenSpec.ofChange Rows.lexSplitsSpec) :=
  OpenClaim.holds_of_wide 9 Tryd.f9 rfl rfl rfl rfl rfl rfl rfl ⟨rfl, rfl, rfl, rfl, rfl⟩ rfl rfl rfl rfl rfl (by kernel_rfl) Tryd.func9 (by kernel_rfl)
    (of_decide_eq_true (by kernel_rfl)) (by unfold Func.isWrapper; first | (rw [if_pos (by decide +kernel)]; kernel_rfl) | (rw [if_neg (by decide +kernel)]; exact ⟨rfl, rfl⟩))
    (fun os started H enc _ => lifted os started H enc)
end Go.Proofs.YtepnfdggeobcaaaDoor.lexSplits
namespace Go.Proofs.YtepnfdggeobcaaaDoor
theorem lexSplits_card_holds : Rows.LexSplitsCardSaid :=
  Claim7.holds_tied_plain_at .later [] [.data, .pinned] true (true, "9f14a96ce8ec2009b41abe6127b4093583e1c2b9d2d377a159b66be2cbb0e4a6") false lexSplits.over (fun _ h => by cases h) (by kernel_rfl) (fun _ h => by cases h) lexSplits_row_tie rfl ⟨rfl, rfl⟩ (by kernel_rfl) rfl
    (fun f fn hf hfn => by
      obtain rfl : f = 9 := Option.some.inj ((show Tryd.prog.funcNamed "rickyard/rickyardlaw31.LexSplits" = some 9 by kernel_rfl).symm.trans hf) |>.symm
      obtain rfl : fn = Tryd.f9 := (Option.some.inj (Tryd.func9.symm.trans hfn)).symm
      exact ⟨by kernel_rfl, Gv.noStandIn (l := [9]) rfl (by kernel_rfl)⟩)
    (by kernel_rfl)
#print axioms lexSplits_card_holds
end Go.Proofs.YtepnfdggeobcaaaDoor
