/- The row of the law CheckAny, and its tied card: for every input that can be read, the law's call returns true and leaves what was there as it was, the listed tables being as the program's text lays them. No other condition. Written by gvrowd.py. -/
import Derived.Test.YtegglibipjjblaaGreatDoorRows
import Derived.Test.YtegglibipjjblaaGreatDoorTie
import Derived.Test.YtegglibipjjblaaGreatDoorCards
import Derived.Test.YtegglibipjjblaaGreatDoorGvZLaw
import Derived.Test.YtegglibipjjblaaGreatDoorGvTKa
import Derived.Test.YtegglibipjjblaaGreatDoorGvKLawA
namespace Go.Proofs.YtegglibipjjblaaGreatDoor.checkAny
open Go.Gv
set_option maxRecDepth 100000
theorem met (W : World) (h : laidMetH Tryz.prog Rows.checkAnyRow.laid W) : ∃ ψ, OI cfgKa W tabs ψ ∧ Glob cfgKa ψ :=
  tabs_OI (C := cfgKa) (laid := Rows.checkAnyRow.laid) h (by kernel_rfl) tabs_frz [(0, 2)] (List.forall_mem_cons.2 ⟨⟨by kernel_rfl, "math/bits.deBruijn64tab", Rows.laid_math_bits_deBruijn64tab, _, _, List.mem_of_getElem? (i := 0) rfl, by kernel_rfl, rfl, rfl, by kernel_rfl, by kernel_rfl⟩, (fun _ h => by cases h)⟩)
    (fun g hg => of_decide_eq_true (has_all (P := fun g => decide (([(0, 2)] : List (Nat × Nat)).find? (fun x => Nat.beq x.2 (cfgKa.gl g)) = some (g, cfgKa.gl g))) (l := [0]) (by kernel_rfl) g hg))
theorem lifted (os : Os) (started : os.Started) (H : Type) (enc : TypeId × Value → H) :
    ReturnsInHanded {} Tryz.checked os 11 .any (fun w args => (Rows.checkAnySpec.pre enc Tryz.prog Tryz.f11 [] false w args ∧ laidMetH Tryz.prog Rows.checkAnyRow.laid w) ∧ sizedMet enc Tryz.prog Tryz.f11 (OpenSpec.ofChange Rows.checkAnySpec) false w args)
      (Rows.checkAnySpec.post enc Tryz.prog Tryz.f11 false true false false) :=
  law_lifted_laid (C := cfgKa) (Ck := Tryz.checked) rfl started (by kernel_rfl) (by kernel_rfl) Tryz.func11 (by kernel_rfl) rfl rfl Tryz.underlying4 (by kernel_rfl)
    (fun ds h => by
      have h' : ds.length = 1 := h
      match ds, h' with
      | [d0], _ => exact ⟨rfl, rfl, rfl⟩)
    (ChangeSpec.witness_shaped (enc := enc) (C := Tryz.checked) (os := os) (X := fun w _ => laidMetH Tryz.prog Rows.checkAnyRow.laid w) false (World.laidAll Tryz.prog os Rows.checkAnyRow.laid) #[.slice none 0 0] 8 (World.laidAll_os _ _ _)
      (World.shaped_of_ZipB (by kernel_rfl) (by kernel_rfl)) (by kernel_rfl) (by kernel_rfl) (by kernel_rfl)
      (by rw [MakeChecks.laidMetH_plain _ _ _ (by kernel_rfl)]; exact laidMet_laidAll _ (by kernel_rfl) (by kernel_rfl)))
    (fun W args ds p base hL hval hA => by
      obtain ⟨ψ, I, G⟩ := met W hL
      exact law_calls (Bd := bdOf bdsKa) bodiesKa (f := 11) (by kernel_rfl) Tryz.func11 (by kernel_rfl) (by kernel_rfl) I G (tys := [(false, (.sl (.i .u8)))]) (by kernel_rfl)
        (fun s args hf ht hr => F.law_law27_CheckAny has_law27_CheckAny s args hf ht hr) hval hA)
theorem k1 : (Rows.checkAnyRow.inPlace == Tryz.pinned.checked.prog.inPlace 11) = true := by kernel_rfl
theorem k2 : (Rows.checkAnyRow.unfollowed == Tryz.pinned.checked.prog.unfollowed 11) = true := by kernel_rfl
theorem k3 : (Rows.checkAnyRow.recurses == Tryz.pinned.checked.prog.recurses 11) = true := by kernel_rfl
theorem k4 : (Rows.checkAnyRow.named == Tryz.pinned.checked.prog.varsNamed 11) = true := by kernel_rfl
theorem facts : joinedFacts Tryz.pinned.checked.prog 11 Tryz.f11 Rows.checkAnySpec Rows.checkAnyRow = true := by
  unfold joinedFacts
  rw [k1, k2, k3, k4]
  kernel_rfl
theorem over : Rows.checkAnyRow.holds Tryz.pinned (OpenSpec.ofChange Rows.checkAnySpec) :=
  OpenClaim.holds_of_wide 11 Tryz.f11 rfl rfl rfl rfl rfl rfl rfl ⟨rfl, rfl, rfl, rfl, rfl⟩ rfl rfl rfl rfl rfl (by kernel_rfl) Tryz.func11 facts
    (of_decide_eq_true (by kernel_rfl)) (by unfold Func.isWrapper; first | (rw [if_pos (by decide +kernel)]; kernel_rfl) | (rw [if_neg (by decide +kernel)]; exact ⟨rfl, rfl⟩))
    (fun os started H enc _ => lifted os started H enc)
end Go.Proofs.YtegglibipjjblaaGreatDoor.checkAny
namespace Go.Proofs.YtegglibipjjblaaGreatDoor
theorem checkAny_card_holds : Rows.CheckAnyCardSaid :=
  Claim7.holds_tied_plain_at .later [] [.data] true (true, "f0a693b46dc3038825bfa3607a3142e113c7bda9c9dc486269a01c2a8334ac39") true checkAny.over (fun _ h => by cases h) (by kernel_rfl) (fun _ h => by cases h) checkAny_row_tie rfl ⟨rfl, rfl⟩ (by kernel_rfl) rfl
    (fun f fn hf hfn => by
      obtain rfl : f = 11 := Option.some.inj ((show Tryz.prog.funcNamed "rickyard/rickyardlaw27.CheckAny" = some 11 by kernel_rfl).symm.trans hf) |>.symm
      obtain rfl : fn = Tryz.f11 := (Option.some.inj (Tryz.func11.symm.trans hfn)).symm
      exact ⟨by kernel_rfl, Gv.noStandIn (l := [30]) rfl (by kernel_rfl)⟩)
    (by kernel_rfl)
#print axioms checkAny_card_holds
end Go.Proofs.YtegglibipjjblaaGreatDoor
