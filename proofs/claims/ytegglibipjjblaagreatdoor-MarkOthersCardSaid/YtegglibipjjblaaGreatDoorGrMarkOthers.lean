/- The row of the law MarkOthers, and its tied card: for every input that can be read, the law's call returns true and leaves what was there as it was, the listed tables being as the program's text lays them. No other condition. Written by gvrowd.py. -/
import Derived.Test.YtegglibipjjblaaGreatDoorRows
import Derived.Test.YtegglibipjjblaaGreatDoorTie
import Derived.Test.YtegglibipjjblaaGreatDoorCards
import Derived.Test.YtegglibipjjblaaGreatDoorGvZLaw
import Derived.Test.YtegglibipjjblaaGreatDoorGvTMq
import Derived.Test.YtegglibipjjblaaGreatDoorGvMLawQ
namespace Go.Proofs.YtegglibipjjblaaGreatDoor.markOthers
open Go.Gv
set_option maxRecDepth 100000
theorem met (W : World) (h : laidMetH Tryz.prog Rows.markOthersRow.laid W) : ∃ ψ, OI cfgMq W tabs ψ ∧ Glob cfgMq ψ :=
  tabs_OI (C := cfgMq) (laid := Rows.markOthersRow.laid) h (by kernel_rfl) tabs_frz [(0, 2)] (List.forall_mem_cons.2 ⟨⟨by kernel_rfl, "math/bits.deBruijn64tab", Rows.laid_math_bits_deBruijn64tab, _, _, List.mem_of_getElem? (i := 0) rfl, by kernel_rfl, rfl, rfl, by kernel_rfl, by kernel_rfl⟩, (fun _ h => by cases h)⟩)
    (fun g hg => of_decide_eq_true (has_all (P := fun g => decide (([(0, 2)] : List (Nat × Nat)).find? (fun x => Nat.beq x.2 (cfgMq.gl g)) = some (g, cfgMq.gl g))) (l := [0]) (by kernel_rfl) g hg))
theorem lifted (os : Os) (started : os.Started) (H : Type) (enc : TypeId × Value → H) :
    ReturnsInHanded {} Tryz.checked os 8 .any (fun w args => (Rows.markOthersSpec.pre enc Tryz.prog Tryz.f8 [] false w args ∧ laidMetH Tryz.prog Rows.markOthersRow.laid w) ∧ sizedMet enc Tryz.prog Tryz.f8 (OpenSpec.ofChange Rows.markOthersSpec) false w args)
      (Rows.markOthersSpec.post enc Tryz.prog Tryz.f8 false true false false) :=
  law_lifted_laid (C := cfgMq) (Ck := Tryz.checked) rfl started (by kernel_rfl) (by kernel_rfl) Tryz.func8 (by kernel_rfl) rfl rfl Tryz.underlying4 (by kernel_rfl)
    (fun ds h => by
      have h' : ds.length = 3 := h
      match ds, h' with
      | [d0, d1, d2], _ => exact ⟨rfl, rfl, rfl⟩)
    (ChangeSpec.witness_shaped (enc := enc) (C := Tryz.checked) (os := os) (X := fun w _ => laidMetH Tryz.prog Rows.markOthersRow.laid w) false (World.laidAll Tryz.prog os Rows.markOthersRow.laid) #[.agg #[.int .i64 0, .int .i64 0, .int .i64 0, .slice none 0 0, .slice none 0 0, .slice none 0 0], .agg #[.int .i64 0, .int .i64 0, .int .i64 0, .int .i64 0, .int .i64 0, .int .i64 0, .int .i64 0, .int .i64 0, .slice none 0 0], .int .i64 0] 8 (World.laidAll_os _ _ _)
      (World.shaped_of_ZipB (by kernel_rfl) (by kernel_rfl)) (by kernel_rfl) (by kernel_rfl) (by kernel_rfl)
      (by rw [MakeChecks.laidMetH_plain _ _ _ (by kernel_rfl)]; exact laidMet_laidAll _ (by kernel_rfl) (by kernel_rfl)))
    (fun W args ds p base hL hval hA => by
      obtain ⟨ψ, I, G⟩ := met W hL
      exact law_calls (Bd := bdOf bdsMq) bodiesMq (f := 8) (by kernel_rfl) Tryz.func8 (by kernel_rfl) (by kernel_rfl) I G (tys := [(true, (.pr (.pr (.i .i64) (.pr (.i .i64) (.pr (.i .i64) .un))) (.pr (.sl (.pr .s (.pr (.sl (.pr (.pr (.i .i64) (.pr (.i .i64) .un)) (.pr (.i .i64) (.pr (.i .i64) .un)))) .un))) (.pr (.sl (.i .i64)) (.pr (.sl (.i .i64)) .un))))), (true, (.pr (.i .i64) (.pr (.pr (.pr (.i .i64) (.pr (.i .i64) (.pr (.i .i64) .un))) (.pr (.i .i64) (.pr (.i .i64) (.pr (.i .i64) .un)))) (.pr (.i .i64) (.pr (.sl (.i .i64)) .un))))), (false, (.i .i64))]) (by kernel_rfl)
        (fun s args hf ht hr => F.law_law26_MarkOthers has_law26_MarkOthers s args hf ht hr) hval hA)
theorem k1 : (Rows.markOthersRow.inPlace == Tryz.pinned.checked.prog.inPlace 8) = true := by kernel_rfl
theorem k2 : (Rows.markOthersRow.unfollowed == Tryz.pinned.checked.prog.unfollowed 8) = true := by kernel_rfl
theorem k3 : (Rows.markOthersRow.recurses == Tryz.pinned.checked.prog.recurses 8) = true := by kernel_rfl
theorem k4 : (Rows.markOthersRow.named == Tryz.pinned.checked.prog.varsNamed 8) = true := by kernel_rfl
theorem facts : joinedFacts Tryz.pinned.checked.prog 8 Tryz.f8 Rows.markOthersSpec Rows.markOthersRow = true := by
  unfold joinedFacts
  rw [k1, k2, k3, k4]
  kernel_rfl
theorem over : Rows.markOthersRow.holds Tryz.pinned (OpenSpec.ofChange Rows.markOthersSpec) :=
  OpenClaim.holds_of_wide 8 Tryz.f8 rfl rfl rfl rfl rfl rfl rfl ⟨rfl, rfl, rfl, rfl, rfl⟩ rfl rfl rfl rfl rfl (by kernel_rfl) Tryz.func8 facts
    (of_decide_eq_true (by kernel_rfl)) (by unfold Func.isWrapper; first | (rw [if_pos (by decide +kernel)]; kernel_rfl) | (rw [if_neg (by decide +kernel)]; exact ⟨rfl, rfl⟩))
    (fun os started H enc _ => lifted os started H enc)
end Go.Proofs.YtegglibipjjblaaGreatDoor.markOthers
namespace Go.Proofs.YtegglibipjjblaaGreatDoor
theorem markOthers_card_holds : Rows.MarkOthersCardSaid :=
  Claim7.holds_tied_plain_at .later [] [.data] true (true, "f0a693b46dc3038825bfa3607a3142e113c7bda9c9dc486269a01c2a8334ac39") true markOthers.over (fun _ h => by cases h) (by kernel_rfl) (fun _ h => by cases h) markOthers_row_tie rfl ⟨rfl, rfl⟩ (by kernel_rfl) rfl
    (fun f fn hf hfn => by
      obtain rfl : f = 8 := Option.some.inj ((show Tryz.prog.funcNamed "rickyard/rickyardlaw26.MarkOthers" = some 8 by kernel_rfl).symm.trans hf) |>.symm
      obtain rfl : fn = Tryz.f8 := (Option.some.inj (Tryz.func8.symm.trans hfn)).symm
      exact ⟨by kernel_rfl, Gv.noStandIn (l := [27, 34, 3]) rfl (by kernel_rfl)⟩)
    (by kernel_rfl)
#print axioms markOthers_card_holds
end Go.Proofs.YtegglibipjjblaaGreatDoor
