/- The row of the law DigitReads, and its tied card: for every input that can be read, the law's call returns true and leaves what was there as it was, the listed tables being as the program's text lays them. No other condition. Written by gvrowd.py. -/
import Derived.Test.YtepnfdggeobcaaaDoorRows
import Derived.Test.YtepnfdggeobcaaaDoorTie
import Derived.Test.YtepnfdggeobcaaaDoorCards
import Derived.Test.YtepnfdggeobcaaaDoorGvLawD
import Derived.Test.YtepnfdggeobcaaaDoorGvTabs
import Derived.Test.YtepnfdggeobcaaaDoorGvTDi
import Derived.Test.YtepnfdggeobcaaaDoorGvPRead2
namespace Go.Proofs.YtepnfdggeobcaaaDoor.digitReads
open Go.Gv
set_option maxRecDepth 100000
theorem met (W : World) (h : laidMetH Tryd.prog Rows.digitReadsRow.laid W) : ∃ ψ, OI cfgDi W tabs ψ ∧ Glob cfgDi ψ :=
  tabs_OI (C := cfgDi) (laid := Rows.digitReadsRow.laid) h (by kernel_rfl) tabs_frz [(0, 1), (3, 2)] (List.forall_mem_cons.2 ⟨⟨by kernel_rfl, "internal/strconv.uint64pow10", Rows.laid_internal_strconv_uint64pow10, _, _, List.mem_of_getElem? (i := 2) rfl, by kernel_rfl, rfl, rfl, by kernel_rfl, by kernel_rfl⟩, (List.forall_mem_cons.2 ⟨⟨by kernel_rfl, "math/bits.deBruijn64tab", Rows.laid_math_bits_deBruijn64tab, _, _, List.mem_of_getElem? (i := 1) rfl, by kernel_rfl, rfl, rfl, by kernel_rfl, by kernel_rfl⟩, (fun _ h => by cases h)⟩)⟩)
    (fun g hg => of_decide_eq_true (has_all (P := fun g => decide (([(0, 1), (3, 2)] : List (Nat × Nat)).find? (fun x => Nat.beq x.2 (cfgDi.gl g)) = some (g, cfgDi.gl g))) (l := [0, 3]) (by kernel_rfl) g hg))
theorem lifted (os : Os) (started : os.Started) (H : Type) (enc : TypeId × Value → H) :
    ReturnsInHanded {} Tryd.checked os 11 .any (fun w args => (Rows.digitReadsSpec.pre enc Tryd.prog Tryd.f11 [] false w args ∧ laidMetH Tryd.prog Rows.digitReadsRow.laid w) ∧ sizedMet enc Tryd.prog Tryd.f11 (OpenSpec.ofChange Rows.digitReadsSpec) false w args)
      (Rows.digitReadsSpec.post enc Tryd.prog Tryd.f11 false true false false) :=
  law_lifted_laid (C := cfgDi) (Ck := Tryd.checked) rfl started (by kernel_rfl) (by kernel_rfl) Tryd.func11 (by kernel_rfl) rfl rfl Tryd.underlying4 (by kernel_rfl)
    (fun ds h => by
      have h' : ds.length = 1 := h
      match ds, h' with
      | [d0], _ => exact ⟨rfl, rfl, rfl⟩)
    (ChangeSpec.witness_shaped (enc := enc) (C := Tryd.checked) (os := os) (X := fun w _ => laidMetH Tryd.prog Rows.digitReadsRow.laid w) false (World.laidAll Tryd.prog os Rows.digitReadsRow.laid) #[.string ByteArray.empty] 8 (World.laidAll_os _ _ _)
      (World.shaped_of_ZipB (by kernel_rfl) (by kernel_rfl)) (by kernel_rfl) (by kernel_rfl) (by kernel_rfl)
      (by rw [MakeChecks.laidMetH_plain _ _ _ (by kernel_rfl)]; exact laidMet_laidAll _ (by kernel_rfl) (by kernel_rfl)))
    (fun W args ds p base hL hval hA => by
      obtain ⟨ψ, I, G⟩ := met W hL
      exact law_calls (Bd := bdOf bdsDi) bodiesDi (f := 11) (by kernel_rfl) Tryd.func11 (by kernel_rfl) (by kernel_rfl) I G (tys := [(false, .s)]) (by kernel_rfl)
        (fun s args hf ht hr => F.law_law03_DigitReads has_law03_DigitReads s args hf ht hr) hval hA)
theorem over : Rows.digitReadsRow.holds Tryd.pinned (OpenSpec.ofChange Rows.digitReadsSpec) :=
  OpenClaim.holds_of_wide 11 Tryd.f11 rfl rfl rfl rfl rfl rfl rfl ⟨rfl, rfl, rfl, rfl, rfl⟩ rfl rfl rfl rfl rfl (by kernel_rfl) Tryd.func11 (by kernel_rfl)
    (of_decide_eq_true (by kernel_rfl)) (by unfold Func.isWrapper; first | (rw [if_pos (by decide +kernel)]; kernel_rfl) | (rw [if_neg (by decide +kernel)]; exact ⟨rfl, rfl⟩))
    (fun os started H enc _ => lifted os started H enc)
end Go.Proofs.YtepnfdggeobcaaaDoor.digitReads
namespace Go.Proofs.YtepnfdggeobcaaaDoor
theorem digitReads_card_holds : Rows.DigitReadsCardSaid :=
  Claim7.holds_tied_plain_at .later [] [.data, .data, .data] true (true, "9f14a96ce8ec2009b41abe6127b4093583e1c2b9d2d377a159b66be2cbb0e4a6") false digitReads.over (fun _ h => by cases h) (by kernel_rfl) (fun _ h => by cases h) digitReads_row_tie rfl ⟨rfl, rfl⟩ (by kernel_rfl) rfl
    (fun f fn hf hfn => by
      obtain rfl : f = 11 := Option.some.inj ((show Tryd.prog.funcNamed "rickyard/rickyardlaw03.DigitReads" = some 11 by kernel_rfl).symm.trans hf) |>.symm
      obtain rfl : fn = Tryd.f11 := (Option.some.inj (Tryd.func11.symm.trans hfn)).symm
      exact ⟨by kernel_rfl, Gv.noStandIn (l := [9]) rfl (by kernel_rfl)⟩)
    (by kernel_rfl)
#print axioms digitReads_card_holds
end Go.Proofs.YtepnfdggeobcaaaDoor
