/- The row of the law ScriptParses, and its tied card: for every input that can be read, the law's call returns true and leaves what was there as it was, the listed tables being as the program's text lays them. No other condition. Written by gvrowd.py. -/
import Derived.Test.YtepnfdggeobcaabDoorRows
import Derived.Test.YtepnfdggeobcaabDoorTie
import Derived.Test.YtepnfdggeobcaabDoorCards
import Derived.Test.YtepnfdggeobcaabDoorGvZLaw
import Derived.Test.YtepnfdggeobcaabDoorGvTSp
import Derived.Test.YtepnfdggeobcaabDoorGvPLaw32
namespace Go.Proofs.YtepnfdggeobcaabDoor.scriptParses
open Go.Gv
set_option maxRecDepth 100000
theorem met (W : World) (h : laidMetH Tryd.prog Rows.scriptParsesRow.laid W) : ∃ ψ, OI cfgSp W tabs ψ ∧ Glob cfgSp ψ :=
  tabs_OI (C := cfgSp) (laid := Rows.scriptParsesRow.laid) h (by kernel_rfl) tabs_frz [(0, 0)] (List.forall_mem_cons.2 ⟨⟨by kernel_rfl, "rickyard/script.commands", Rows.laid_rickyard_script_commands, _, _, List.mem_of_getElem? (i := 0) rfl, by kernel_rfl, rfl, rfl, by kernel_rfl, by kernel_rfl⟩, (fun _ h => by cases h)⟩)
    (fun g hg => of_decide_eq_true (has_all (P := fun g => decide (([(0, 0)] : List (Nat × Nat)).find? (fun x => Nat.beq x.2 (cfgSp.gl g)) = some (g, cfgSp.gl g))) (l := [0]) (by kernel_rfl) g hg))
theorem lifted (os : Os) (started : os.Started) (H : Type) (enc : TypeId × Value → H) :
    ReturnsInHanded {} Tryd.checked os 6 .any (fun w args => (Rows.scriptParsesSpec.pre enc Tryd.prog Tryd.f6 [] false w args ∧ laidMetH Tryd.prog Rows.scriptParsesRow.laid w) ∧ sizedMet enc Tryd.prog Tryd.f6 (OpenSpec.ofChange Rows.scriptParsesSpec) false w args)
      (Rows.scriptParsesSpec.post enc Tryd.prog Tryd.f6 false true false false) :=
  law_lifted_laid (C := cfgSp) (Ck := Tryd.checked) rfl started (by kernel_rfl) (by kernel_rfl) Tryd.func6 (by kernel_rfl) rfl rfl Tryd.underlying4 (by kernel_rfl)
    (fun ds h => by
      have h' : ds.length = 1 := h
      match ds, h' with
      | [d0], _ => exact ⟨rfl, rfl, rfl⟩)
    (ChangeSpec.witness_shaped (enc := enc) (C := Tryd.checked) (os := os) (X := fun w _ => laidMetH Tryd.prog Rows.scriptParsesRow.laid w) false (World.laidAll Tryd.prog os Rows.scriptParsesRow.laid) #[.slice none 0 0] 8 (World.laidAll_os _ _ _)
      (World.shaped_of_ZipB (by kernel_rfl) (by kernel_rfl)) (by kernel_rfl) (by kernel_rfl) (by kernel_rfl)
      (by rw [MakeChecks.laidMetH_plain _ _ _ (by kernel_rfl)]; exact laidMet_laidAll _ (by kernel_rfl) (by kernel_rfl)))
    (fun W args ds p base hL hval hA => by
      obtain ⟨ψ, I, G⟩ := met W hL
      exact law_calls (Bd := bdOf bdsSp) bodiesSp (f := 6) (by kernel_rfl) Tryd.func6 (by kernel_rfl) (by kernel_rfl) I G (tys := [(false, (.sl .s))]) (by kernel_rfl)
        (fun s args hf ht hr => F.law_law32_ScriptParses has_law32_ScriptParses s args hf ht hr) hval hA)
theorem over : Rows.scriptParsesRow.holds Tryd.pinned (OpenSpec.ofChange Rows.scriptParsesSpec) :=
  OpenClaim.holds_of_wide 6 Tryd.f6 rfl rfl rfl rfl rfl rfl rfl ⟨rfl, rfl, rfl, rfl, rfl⟩ rfl rfl rfl rfl rfl (by kernel_rfl) Tryd.func6 (by kernel_rfl)
    (of_decide_eq_true (by kernel_rfl)) (by unfold Func.isWrapper; first | (rw [if_pos (by decide +kernel)]; kernel_rfl) | (rw [if_neg (by decide +kernel)]; exact ⟨rfl, rfl⟩))
    (fun os started H enc _ => lifted os started H enc)
end Go.Proofs.YtepnfdggeobcaabDoor.scriptParses
namespace Go.Proofs.YtepnfdggeobcaabDoor
theorem scriptParses_card_holds : Rows.ScriptParsesCardSaid :=
  Claim7.holds_tied_plain_at .later [] [.data] true (true, "eec6565fb1a0dcda9c65927b00e7a6d448a7e12bfd4ca28c51167ba6603050b8") false scriptParses.over (fun _ h => by cases h) (by kernel_rfl) (fun _ h => by cases h) scriptParses_row_tie rfl ⟨rfl, rfl⟩ (by kernel_rfl) rfl
    (fun f fn hf hfn => by
      obtain rfl : f = 6 := Option.some.inj ((show Tryd.prog.funcNamed "rickyard/rickyardlaw32.ScriptParses" = some 6 by kernel_rfl).symm.trans hf) |>.symm
      obtain rfl : fn = Tryd.f6 := (Option.some.inj (Tryd.func6.symm.trans hfn)).symm
      exact ⟨by kernel_rfl, Gv.noStandIn (l := [35]) rfl (by kernel_rfl)⟩)
    (by kernel_rfl)
#print axioms scriptParses_card_holds
end Go.Proofs.YtepnfdggeobcaabDoor
