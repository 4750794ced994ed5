/- The row of the law NameOrders, and its tied card: for every input that can be read, the law's call returns true and leaves what was there as it was, the listed tables being as the program's text lays them. No other condition. Written by gvrowd.py. -/
import Derived.Test.YtepnfdggeobcaaaDoorRows
import Derived.Test.YtepnfdggeobcaaaDoorTie
import Derived.Test.YtepnfdggeobcaaaDoorCards
import Derived.Test.YtepnfdggeobcaaaDoorGvLawD
import Derived.Test.YtepnfdggeobcaaaDoorGvTabs
import Derived.Test.YtepnfdggeobcaaaDoorGvTNa4
import Derived.Test.YtepnfdggeobcaaaDoorGvPCmp
namespace Go.Proofs.YtepnfdggeobcaaaDoor.nameOrders
open Go.Gv
set_option maxRecDepth 100000
theorem met (W : World) (h : laidMetH Tryd.prog Rows.nameOrdersRow.laid W) : ∃ ψ, OI cfgNa4 W tabs ψ ∧ Glob cfgNa4 ψ :=
  tabs_OI (C := cfgNa4) (laid := Rows.nameOrdersRow.laid) h (by kernel_rfl) tabs_frz [(0, 1), (3, 2)] (List.forall_mem_cons.2 ⟨⟨by kernel_rfl, "internal/strconv.uint64pow10", Rows.laid_internal_strconv_uint64pow10, _, _, List.mem_of_getElem? (i := 2) rfl, by kernel_rfl, rfl, rfl, by kernel_rfl, by kernel_rfl⟩, (List.forall_mem_cons.2 ⟨⟨by kernel_rfl, "math/bits.deBruijn64tab", Rows.laid_math_bits_deBruijn64tab, _, _, List.mem_of_getElem? (i := 1) rfl, by kernel_rfl, rfl, rfl, by kernel_rfl, by kernel_rfl⟩, (fun _ h => by cases h)⟩)⟩)
    (fun g hg => of_decide_eq_true (has_all (P := fun g => decide (([(0, 1), (3, 2)] : List (Nat × Nat)).find? (fun x => Nat.beq x.2 (cfgNa4.gl g)) = some (g, cfgNa4.gl g))) (l := [0, 3]) (by kernel_rfl) g hg))
theorem lifted (os : Os) (started : os.Started) (H : Type) (enc : TypeId × Value → H) :
    ReturnsInHanded {} Tryd.checked os 7 .any (fun w args => (Rows.nameOrdersSpec.pre enc Tryd.prog Tryd.f7 [] false w args ∧ laidMetH Tryd.prog Rows.nameOrdersRow.laid w) ∧ sizedMet enc Tryd.prog Tryd.f7 (OpenSpec.ofChange Rows.nameOrdersSpec) false w args)
      (Rows.nameOrdersSpec.post enc Tryd.prog Tryd.f7 false true false false) :=
  law_lifted_laid (C := cfgNa4) (Ck := Tryd.checked) rfl started (by kernel_rfl) (by kernel_rfl) Tryd.func7 (by kernel_rfl) rfl rfl Tryd.underlying4 (by kernel_rfl)
    (fun ds h => by
      have h' : ds.length = 2 := h
      match ds, h' with
      | [d0, d1], _ => exact ⟨rfl, rfl, rfl⟩)
    (ChangeSpec.witness_shaped (enc := enc) (C := Tryd.checked) (os := os) (X := fun w _ => laidMetH Tryd.prog Rows.nameOrdersRow.laid w) false (World.laidAll Tryd.prog os Rows.nameOrdersRow.laid) #[.string ByteArray.empty, .string ByteArray.empty] 8 (World.laidAll_os _ _ _)
      (World.shaped_of_ZipB (by kernel_rfl) (by kernel_rfl)) (by kernel_rfl) (by kernel_rfl) (by kernel_rfl)
      (by rw [MakeChecks.laidMetH_plain _ _ _ (by kernel_rfl)]; exact laidMet_laidAll _ (by kernel_rfl) (by kernel_rfl)))
    (fun W args ds p base hL hval hA => by
      obtain ⟨ψ, I, G⟩ := met W hL
      exact law_calls (Bd := bdOf bdsNa4) bodiesNa4 (f := 7) (by kernel_rfl) Tryd.func7 (by kernel_rfl) (by kernel_rfl) I G (tys := [(false, .s), (false, .s)]) (by kernel_rfl)
        (fun s args hf ht hr => F.law_law04_NameOrders has_law04_NameOrders s args hf ht hr) hval hA)
theorem over : Rows.nameOrdersRow.holds Tryd.pinned (OpenSpec.ofChange Rows.nameOrdersSpec) :=
  OpenClaim.holds_of_wide 7 Tryd.f7 rfl rfl rfl rfl rfl rfl rfl ⟨rfl, rfl, rfl, rfl, rfl⟩ rfl rfl rfl rfl rfl (by kernel_rfl) Tryd.func7 (by kernel_rfl)
    (of_decide_eq_true (by kernel_rfl)) (by unfold Func.isWrapper; first | (rw [if_pos (by decide +kernel)]; kernel_rfl) | (rw [if_neg (by decide +kernel)]; exact ⟨rfl, rfl⟩))
    (fun os started H enc _ => lifted os started H enc)
end Go.Proofs.YtepnfdggeobcaaaDoor.nameOrders
namespace Go.Proofs.YtepnfdggeobcaaaDoor
theorem nameOrders_card_holds : Rows.NameOrdersCardSaid :=
  Claim7.holds_tied_plain_at .later [] [.data, .data, .data] true (true, "9f14a96ce8ec2009b41abe6127b4093583e1c2b9d2d377a159b66be2cbb0e4a6") false nameOrders.over (fun _ h => by cases h) (by kernel_rfl) (fun _ h => by cases h) nameOrders_row_tie rfl ⟨rfl, rfl⟩ (by kernel_rfl) rfl
    (fun f fn hf hfn => by
      obtain rfl : f = 7 := Option.some.inj ((show Tryd.prog.funcNamed "rickyard/rickyardlaw04.NameOrders" = some 7 by kernel_rfl).symm.trans hf) |>.symm
      obtain rfl : fn = Tryd.f7 := (Option.some.inj (Tryd.func7.symm.trans hfn)).symm
      exact ⟨by kernel_rfl, Gv.noStandIn (l := [9, 9]) rfl (by kernel_rfl)⟩)
    (by kernel_rfl)
#print axioms nameOrders_card_holds
end Go.Proofs.YtepnfdggeobcaaaDoor
