/- The row of the law CheckOctet, and its tied card: for every input that can be read, the law's call returns true and leaves what was there as it was, the listed tables being as the program's text lays them. No other condition. Written by gvrowd.py. -/
import Derived.Test.YtegglibipjjblaaGreatDoorRows
import Derived.Test.YtegglibipjjblaaGreatDoorTie
import Derived.Test.YtegglibipjjblaaGreatDoorCards
import Derived.Test.YtegglibipjjblaaGreatDoorGvZLaw
import Derived.Test.YtegglibipjjblaaGreatDoorGvTKx
import Derived.Test.YtegglibipjjblaaGreatDoorGvKLawX
namespace Go.Proofs.YtegglibipjjblaaGreatDoor.checkOctet
open Go.Gv
set_option maxRecDepth 100000
theorem met (W : World) (h : laidMetH Tryz.prog Rows.checkOctetRow.laid W) : ∃ ψ, OI cfgKx W tabs ψ ∧ Glob cfgKx ψ :=
  tabs_OI (C := cfgKx) (laid := Rows.checkOctetRow.laid) h (by kernel_rfl) tabs_frz [(0, 2)] (List.forall_mem_cons.2 ⟨⟨by kernel_rfl, "math/bits.deBruijn64tab", Rows.laid_math_bits_deBruijn64tab, _, _, List.mem_of_getElem? (i := 0) rfl, by kernel_rfl, rfl, rfl, by kernel_rfl, by kernel_rfl⟩, (fun _ h => by cases h)⟩)
    (fun g hg => of_decide_eq_true (has_all (P := fun g => decide (([(0, 2)] : List (Nat × Nat)).find? (fun x => Nat.beq x.2 (cfgKx.gl g)) = some (g, cfgKx.gl g))) (l := [0]) (by kernel_rfl) g hg))
theorem lifted (os : Os) (started : os.Started) (H : Type) (enc : TypeId × Value → H) :
    ReturnsInHanded {} Tryz.checked os 9 .any (fun w args => (Rows.checkOctetSpec.pre enc Tryz.prog Tryz.f9 [] false w args ∧ laidMetH Tryz.prog Rows.checkOctetRow.laid w) ∧ sizedMet enc Tryz.prog Tryz.f9 (OpenSpec.ofChange Rows.checkOctetSpec) false w args)
      (Rows.checkOctetSpec.post enc Tryz.prog Tryz.f9 false true false false) :=
  law_lifted_laid (C := cfgKx) (Ck := Tryz.checked) rfl started (by kernel_rfl) (by kernel_rfl) Tryz.func9 (by kernel_rfl) rfl rfl Tryz.underlying4 (by kernel_rfl)
    (fun ds h => by
      have h' : ds.length = 3 := h
      match ds, h' with
      | [d0, d1, d2], _ => exact ⟨rfl, rfl, rfl⟩)
    (ChangeSpec.witness_shaped (enc := enc) (C := Tryz.checked) (os := os) (X := fun w _ => laidMetH Tryz.prog Rows.checkOctetRow.laid w) false (World.laidAll Tryz.prog os Rows.checkOctetRow.laid) #[.agg #[.int .i64 0, .int .i64 0, .int .i64 0, .slice none 0 0, .slice none 0 0, .slice none 0 0], .int .i64 0, .int .u8 0] 8 (World.laidAll_os _ _ _)
      (World.shaped_of_ZipB (by kernel_rfl) (by kernel_rfl)) (by kernel_rfl) (by kernel_rfl) (by kernel_rfl)
      (by rw [MakeChecks.laidMetH_plain _ _ _ (by kernel_rfl)]; exact laidMet_laidAll _ (by kernel_rfl) (by kernel_rfl)))
    (fun W args ds p base hL hval hA => by
      obtain ⟨ψ, I, G⟩ := met W hL
      exact law_calls (Bd := bdOf bdsKx) bodiesKx (f := 9) (by kernel_rfl) Tryz.func9 (by kernel_rfl) (by kernel_rfl) I G (tys := [(true, (.pr (.pr (.i .i64) (.pr (.i .i64) (.pr (.i .i64) .un))) (.pr (.sl (.pr .s (.pr (.sl (.pr (.pr (.i .i64) (.pr (.i .i64) .un)) (.pr (.i .i64) (.pr (.i .i64) .un)))) .un))) (.pr (.sl (.i .i64)) (.pr (.sl (.i .i64)) .un))))), (false, (.i .i64)), (false, (.i .u8))]) (by kernel_rfl)
        (fun s args hf ht hr => F.law_law27_CheckOctet has_law27_CheckOctet s args hf ht hr) hval hA)
theorem k1 : (Rows.checkOctetRow.inPlace == Tryz.pinned.checked.prog.inPlace 9) = true := by kernel_rfl
theorem k2 : (Rows.checkOctetRow.unfollowed == Tryz.pinned.checked.prog.unfollowed 9) = true := by kernel_rfl
theorem k3 : (Rows.checkOctetRow.recurses == Tryz.pinned.checked.prog.recurses 9) = true := by kernel_rfl
theorem k4 : (Rows.checkOctetRow.named == Tryz.pinned.checked.prog.varsNamed 9) = true := by kernel_rfl
theorem facts : joinedFacts Tryz.pinned.checked.prog 9 Tryz.f9 Rows.checkOctetSpec Rows.checkOctetRow = true := by
  unfold joinedFacts
  rw [k1, k2, k3, k4]
  kernel_rfl
theorem over : Rows.checkOctetRow.holds Tryz.pinned (OpenSpec.ofChange Rows.checkOctetSpec) :=
  OpenClaim.holds_of_wide 9 Tryz.f9 rfl rfl rfl rfl rfl rfl rfl ⟨rfl, rfl, rfl, rfl, rfl⟩ rfl rfl rfl rfl rfl (by kernel_rfl) Tryz.func9 facts
    (of_decide_eq_true (by kernel_rfl)) (by unfold Func.isWrapper; first | (rw [if_pos (by decide +kernel)]; kernel_rfl) | (rw [if_neg (by decide +kernel)]; exact ⟨rfl, rfl⟩))
    (fun os started H enc _ => lifted os started H enc)
end Go.Proofs.YtegglibipjjblaaGreatDoor.checkOctet
namespace Go.Proofs.YtegglibipjjblaaGreatDoor
theorem checkOctet_card_holds : Rows.CheckOctetCardSaid :=
  Claim7.holds_tied_plain_at .later [] [.data] true (true, "f0a693b46dc3038825bfa3607a3142e113c7bda9c9dc486269a01c2a8334ac39") true checkOctet.over (fun _ h => by cases h) (by kernel_rfl) (fun _ h => by cases h) checkOctet_row_tie rfl ⟨rfl, rfl⟩ (by kernel_rfl) rfl
    (fun f fn hf hfn => by
      obtain rfl : f = 9 := Option.some.inj ((show Tryz.prog.funcNamed "rickyard/rickyardlaw27.CheckOctet" = some 9 by kernel_rfl).symm.trans hf) |>.symm
      obtain rfl : fn = Tryz.f9 := (Option.some.inj (Tryz.func9.symm.trans hfn)).symm
      exact ⟨by kernel_rfl, Gv.noStandIn (l := [27, 3, 5]) rfl (by kernel_rfl)⟩)
    (by kernel_rfl)
#print axioms checkOctet_card_holds
end Go.Proofs.YtegglibipjjblaaGreatDoor
