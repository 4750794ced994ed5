/- The row of the law DigitApart, and its tied card: for every input that can be read, the law's call returns true and leaves what was there as it was, the listed tables being as the program's text lays them. No other condition. Written by gvrowd.py. -/
import Derived.Test.YtepnfdggeobcaabDoorRows
import Derived.Test.YtepnfdggeobcaabDoorTie
import Derived.Test.YtepnfdggeobcaabDoorCards
import Derived.Test.YtepnfdggeobcaabDoorGvLawD
import Derived.Test.YtepnfdggeobcaabDoorGvTabs
import Derived.Test.YtepnfdggeobcaabDoorGvTDb
import Derived.Test.YtepnfdggeobcaabDoorGvPLaw03b
namespace Go.Proofs.YtepnfdggeobcaabDoor.digitApart
open Go.Gv
set_option maxRecDepth 100000
theorem met (W : World) (h : laidMetH Tryd.prog Rows.digitApartRow.laid W) : ∃ ψ, OI cfgDb W tabs ψ ∧ Glob cfgDb ψ :=
  tabs_OI (C := cfgDb) (laid := Rows.digitApartRow.laid) h (by kernel_rfl) tabs_frz [(2, 1), (4, 2)] (List.forall_mem_cons.2 ⟨⟨by kernel_rfl, "internal/strconv.uint64pow10", Rows.laid_internal_strconv_uint64pow10, _, _, List.mem_of_getElem? (i := 2) rfl, by kernel_rfl, rfl, rfl, by kernel_rfl, by kernel_rfl⟩, (List.forall_mem_cons.2 ⟨⟨by kernel_rfl, "math/bits.deBruijn64tab", Rows.laid_math_bits_deBruijn64tab, _, _, List.mem_of_getElem? (i := 1) rfl, by kernel_rfl, rfl, rfl, by kernel_rfl, by kernel_rfl⟩, (fun _ h => by cases h)⟩)⟩)
    (fun g hg => of_decide_eq_true (has_all (P := fun g => decide (([(2, 1), (4, 2)] : List (Nat × Nat)).find? (fun x => Nat.beq x.2 (cfgDb.gl g)) = some (g, cfgDb.gl g))) (l := [2, 4]) (by kernel_rfl) g hg))
theorem lifted (os : Os) (started : os.Started) (H : Type) (enc : TypeId × Value → H) :
    ReturnsInHanded {} Tryd.checked os 4 .any (fun w args => (Rows.digitApartSpec.pre enc Tryd.prog Tryd.f4 [] false w args ∧ laidMetH Tryd.prog Rows.digitApartRow.laid w) ∧ sizedMet enc Tryd.prog Tryd.f4 (OpenSpec.ofChange Rows.digitApartSpec) false w args)
      (Rows.digitApartSpec.post enc Tryd.prog Tryd.f4 false true false false) :=
  law_lifted_laid (C := cfgDb) (Ck := Tryd.checked) rfl started (by kernel_rfl) (by kernel_rfl) Tryd.func4 (by kernel_rfl) rfl rfl Tryd.underlying4 (by kernel_rfl)
    (fun ds h => by
      have h' : ds.length = 3 := h
      match ds, h' with
      | [d0, d1, d2], _ => exact ⟨rfl, rfl, rfl⟩)
    (ChangeSpec.witness_shaped (enc := enc) (C := Tryd.checked) (os := os) (X := fun w _ => laidMetH Tryd.prog Rows.digitApartRow.laid w) false (World.laidAll Tryd.prog os Rows.digitApartRow.laid) #[.int .i64 0, .int .i64 0, .int .u8 0] 8 (World.laidAll_os _ _ _)
      (World.shaped_of_ZipB (by kernel_rfl) (by kernel_rfl)) (by kernel_rfl) (by kernel_rfl) (by kernel_rfl)
      (by rw [MakeChecks.laidMetH_plain _ _ _ (by kernel_rfl)]; exact laidMet_laidAll _ (by kernel_rfl) (by kernel_rfl)))
    (fun W args ds p base hL hval hA => by
      obtain ⟨ψ, I, G⟩ := met W hL
      exact law_calls (Bd := bdOf bdsDb) bodiesDb (f := 4) (by kernel_rfl) Tryd.func4 (by kernel_rfl) (by kernel_rfl) I G (tys := [(false, (.i .i64)), (false, (.i .i64)), (false, (.i .u8))]) (by kernel_rfl)
        (fun s args hf ht hr => F.law_law03_DigitApart has_law03_DigitApart s args hf ht hr) hval hA)
theorem over : Rows.digitApartRow.holds Tryd.pinned (OpenSpec.ofChange Rows.digitApartSpec) :=
  OpenClaim.holds_of_wide 4 Tryd.f4 rfl rfl rfl rfl rfl rfl rfl ⟨rfl, rfl, rfl, rfl, rfl⟩ rfl rfl rfl rfl rfl (by kernel_rfl) Tryd.func4 (by kernel_rfl)
    (of_decide_eq_true (by kernel_rfl)) (by unfold Func.isWrapper; first | (rw [if_pos (by decide +kernel)]; kernel_rfl) | (rw [if_neg (by decide +kernel)]; exact ⟨rfl, rfl⟩))
    (fun os started H enc _ => lifted os started H enc)
end Go.Proofs.YtepnfdggeobcaabDoor.digitApart
namespace Go.Proofs.YtepnfdggeobcaabDoor
theorem digitApart_card_holds : Rows.DigitApartCardSaid :=
  Claim7.holds_tied_plain_at .later [] [.data, .data, .data] true (true, "eec6565fb1a0dcda9c65927b00e7a6d448a7e12bfd4ca28c51167ba6603050b8") false digitApart.over (fun _ h => by cases h) (by kernel_rfl) (fun _ h => by cases h) digitApart_row_tie rfl ⟨rfl, rfl⟩ (by kernel_rfl) rfl
    (fun f fn hf hfn => by
      obtain rfl : f = 4 := Option.some.inj ((show Tryd.prog.funcNamed "rickyard/rickyardlaw03.DigitApart" = some 4 by kernel_rfl).symm.trans hf) |>.symm
      obtain rfl : fn = Tryd.f4 := (Option.some.inj (Tryd.func4.symm.trans hfn)).symm
      exact ⟨by kernel_rfl, Gv.noStandIn (l := [3, 3, 5]) rfl (by kernel_rfl)⟩)
    (by kernel_rfl)
#print axioms digitApart_card_holds
end Go.Proofs.YtepnfdggeobcaabDoor
