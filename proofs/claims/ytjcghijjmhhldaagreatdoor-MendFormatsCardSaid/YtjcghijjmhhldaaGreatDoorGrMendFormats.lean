/- The row of the law MendFormats, and its tied card: for every input that can be read, the law's call returns true and leaves what was there as it was, the listed tables being as the program's text lays them. No other condition. Written by gvrowd.py. -/
import Derived.Test.YtjcghijjmhhldaaGreatDoorRows
import Derived.Test.YtjcghijjmhhldaaGreatDoorTie
import Derived.Test.YtjcghijjmhhldaaGreatDoorCards
import Derived.Test.YtjcghijjmhhldaaGreatDoorGvZLaw
import Derived.Test.YtjcghijjmhhldaaGreatDoorGvTMf
import Derived.Test.YtjcghijjmhhldaaGreatDoorGvDLawF
namespace Go.Proofs.YtjcghijjmhhldaaGreatDoor.mendFormats
open Go.Gv
set_option maxRecDepth 100000
theorem met (W : World) (h : laidMetH Tryz.prog Rows.mendFormatsRow.laid W) : ∃ ψ, OI cfgMf W tabs ψ ∧ Glob cfgMf ψ :=
  tabs_OI (C := cfgMf) (laid := Rows.mendFormatsRow.laid) h (by kernel_rfl) tabs_frz [(0, 2)] (List.forall_mem_cons.2 ⟨⟨by kernel_rfl, "math/bits.deBruijn64tab", Rows.laid_math_bits_deBruijn64tab, _, _, List.mem_of_getElem? (i := 0) rfl, by kernel_rfl, rfl, rfl, by kernel_rfl, by kernel_rfl⟩, (fun _ h => by cases h)⟩)
    (fun g hg => of_decide_eq_true (has_all (P := fun g => decide (([(0, 2)] : List (Nat × Nat)).find? (fun x => Nat.beq x.2 (cfgMf.gl g)) = some (g, cfgMf.gl g))) (l := [0]) (by kernel_rfl) g hg))
theorem lifted (os : Os) (started : os.Started) (H : Type) (enc : TypeId × Value → H) :
    ReturnsInHanded {} Tryz.checked os 3 .any (fun w args => (Rows.mendFormatsSpec.pre enc Tryz.prog Tryz.f3 [] false w args ∧ laidMetH Tryz.prog Rows.mendFormatsRow.laid w) ∧ sizedMet enc Tryz.prog Tryz.f3 (OpenSpec.ofChange Rows.mendFormatsSpec) false w args)
      (Rows.mendFormatsSpec.post enc Tryz.prog Tryz.f3 false true false false) :=
  law_lifted_laid (C := cfgMf) (Ck := Tryz.checked) rfl started (by kernel_rfl) (by kernel_rfl) Tryz.func3 (by kernel_rfl) rfl rfl Tryz.underlying4 (by kernel_rfl)
    (fun ds h => by
      have h' : ds.length = 3 := h
      match ds, h' with
      | [d0, d1, d2], _ => exact ⟨rfl, rfl, rfl⟩)
    (ChangeSpec.witness_shaped (enc := enc) (C := Tryz.checked) (os := os) (X := fun w _ => laidMetH Tryz.prog Rows.mendFormatsRow.laid w) false (World.laidAll Tryz.prog os Rows.mendFormatsRow.laid) #[.slice none 0 0, .agg #[.int .i64 0, .int .i64 0, .int .i64 0], .agg #[.int .u8 0, .slice none 0 0, .slice none 0 0]] 8 (World.laidAll_os _ _ _)
      (World.shaped_of_ZipB (by kernel_rfl) (by kernel_rfl)) (by kernel_rfl) (by kernel_rfl) (by kernel_rfl)
      (by rw [MakeChecks.laidMetH_plain _ _ _ (by kernel_rfl)]; exact laidMet_laidAll _ (by kernel_rfl) (by kernel_rfl)))
    (fun W args ds p base hL hval hA => by
      obtain ⟨ψ, I, G⟩ := met W hL
      exact law_calls (Bd := bdOf bdsMf) bodiesMf (f := 3) (by kernel_rfl) Tryz.func3 (by kernel_rfl) (by kernel_rfl) I G (tys := [(false, (.sl (.i .u8))), (true, (.pr (.i .i64) (.pr (.i .i64) (.pr (.i .i64) .un)))), (true, (.pr (.i .u8) (.pr (.sl (.i .i64)) (.pr (.sl (.i .i64)) .un))))]) (by kernel_rfl)
        (fun s args hf ht hr => F.law_law28_MendFormats has_law28_MendFormats s args hf ht hr) hval hA)
theorem k1 : (Rows.mendFormatsRow.inPlace == Tryz.pinned.checked.prog.inPlace 3) = true := by kernel_rfl
theorem k2 : (Rows.mendFormatsRow.unfollowed == Tryz.pinned.checked.prog.unfollowed 3) = true := by kernel_rfl
theorem k3 : (Rows.mendFormatsRow.recurses == Tryz.pinned.checked.prog.recurses 3) = true := by kernel_rfl
theorem k4 : (Rows.mendFormatsRow.named == Tryz.pinned.checked.prog.varsNamed 3) = true := by kernel_rfl
theorem facts : joinedFacts Tryz.pinned.checked.prog 3 Tryz.f3 Rows.mendFormatsSpec Rows.mendFormatsRow = true := by
  unfold joinedFacts
  rw [k1, k2, k3, k4]
  kernel_rfl
theorem over : Rows.mendFormatsRow.holds Tryz.pinned (OpenSpec.ofChange Rows.mendFormatsSpec) :=
  OpenClaim.holds_of_wide 3 Tryz.f3 rfl rfl rfl rfl rfl rfl rfl ⟨rfl, rfl, rfl, rfl, rfl⟩ rfl rfl rfl rfl rfl (by kernel_rfl) Tryz.func3 facts
    (of_decide_eq_true (by kernel_rfl)) (by unfold Func.isWrapper; first | (rw [if_pos (by decide +kernel)]; kernel_rfl) | (rw [if_neg (by decide +kernel)]; exact ⟨rfl, rfl⟩))
    (fun os started H enc _ => lifted os started H enc)
end Go.Proofs.YtjcghijjmhhldaaGreatDoor.mendFormats
namespace Go.Proofs.YtjcghijjmhhldaaGreatDoor
theorem mendFormats_card_holds : Rows.MendFormatsCardSaid :=
  Claim7.holds_tied_plain_at .later [] [.data] true (true, "6c2eb2218efa5977f26ac973c4e3432f6028df9da3bffdd718df867ad0f3cfe0") true mendFormats.over (fun _ h => by cases h) (by kernel_rfl) (fun _ h => by cases h) mendFormats_row_tie rfl ⟨rfl, rfl⟩ (by kernel_rfl) rfl
    (fun f fn hf hfn => by
      obtain rfl : f = 3 := Option.some.inj ((show Tryz.prog.funcNamed "rickyard/rickyardlaw28.MendFormats" = some 3 by kernel_rfl).symm.trans hf) |>.symm
      obtain rfl : fn = Tryz.f3 := (Option.some.inj (Tryz.func3.symm.trans hfn)).symm
      exact ⟨by kernel_rfl, Gv.noStandIn (l := [22, 24, 27]) rfl (by kernel_rfl)⟩)
    (by kernel_rfl)
#print axioms mendFormats_card_holds
end Go.Proofs.YtjcghijjmhhldaaGreatDoor
