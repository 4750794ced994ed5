/- The row of the law ScriptSames, and its tied card: for every input that can be read, the law's call returns true and leaves what was there as it was, the listed tables being as the program's text lays them. No other condition. Written by gvrowd.py. -/
import Derived.Test.YtepnfdggeobcaabDoorRows
import Derived.Test.YtepnfdggeobcaabDoorTie
import Derived.Test.YtepnfdggeobcaabDoorCards
import Derived.Test.YtepnfdggeobcaabDoorGvZLaw
import Derived.Test.YtepnfdggeobcaabDoorGvTSs
import Derived.Test.YtepnfdggeobcaabDoorGvPLaw32
namespace Go.Proofs.YtepnfdggeobcaabDoor.scriptSames
open Go.Gv
set_option maxRecDepth 100000
theorem met (W : World) (h : laidMetH Tryd.prog Rows.scriptSamesRow.laid W) : ∃ ψ, OI cfgSs W tabs ψ ∧ Glob cfgSs ψ :=
  tabs_OI (C := cfgSs) (laid := Rows.scriptSamesRow.laid) h (by kernel_rfl) tabs_frz [(0, 0)] (List.forall_mem_cons.2 ⟨⟨by kernel_rfl, "rickyard/script.commands", Rows.laid_rickyard_script_commands, _, _, List.mem_of_getElem? (i := 0) rfl, by kernel_rfl, rfl, rfl, by kernel_rfl, by kernel_rfl⟩, (fun _ h => by cases h)⟩)
    (fun g hg => of_decide_eq_true (has_all (P := fun g => decide (([(0, 0)] : List (Nat × Nat)).find? (fun x => Nat.beq x.2 (cfgSs.gl g)) = some (g, cfgSs.gl g))) (l := [0]) (by kernel_rfl) g hg))
theorem lifted (os : Os) (started : os.Started) (H : Type) (enc : TypeId × Value → H) :
    ReturnsInHanded {} Tryd.checked os 7 .any (fun w args => (Rows.scriptSamesSpec.pre enc Tryd.prog Tryd.f7 [] false w args ∧ laidMetH Tryd.prog Rows.scriptSamesRow.laid w) ∧ sizedMet enc Tryd.prog Tryd.f7 (OpenSpec.ofChange Rows.scriptSamesSpec) false w args)
      (Rows.scriptSamesSpec.post enc Tryd.prog Tryd.f7 false true false false) :=
  law_lifted_laid (C := cfgSs) (Ck := Tryd.checked) rfl started (by kernel_rfl) (by kernel_rfl) Tryd.func7 (by kernel_rfl) rfl rfl Tryd.underlying4 (by kernel_rfl)
    (fun ds h => by
      have h' : ds.length = 2 := h
      match ds, h' with
      | [d0, d1], _ => exact ⟨rfl, rfl, rfl⟩)
    (ChangeSpec.witness_shaped (enc := enc) (C := Tryd.checked) (os := os) (X := fun w _ => laidMetH Tryd.prog Rows.scriptSamesRow.laid w) false (World.laidAll Tryd.prog os Rows.scriptSamesRow.laid) #[.agg #[.int .i64 0, .string ByteArray.empty, .string ByteArray.empty, .int .i64 0, .int .i64 0, .int .i64 0, .int .i64 0, .slice none 0 0], .agg #[.int .i64 0, .string ByteArray.empty, .string ByteArray.empty, .int .i64 0, .int .i64 0, .int .i64 0, .int .i64 0, .slice none 0 0]] 8 (World.laidAll_os _ _ _)
      (World.shaped_of_ZipB (by kernel_rfl) (by kernel_rfl)) (by kernel_rfl) (by kernel_rfl) (by kernel_rfl)
      (by rw [MakeChecks.laidMetH_plain _ _ _ (by kernel_rfl)]; exact laidMet_laidAll _ (by kernel_rfl) (by kernel_rfl)))
    (fun W args ds p base hL hval hA => by
      obtain ⟨ψ, I, G⟩ := met W hL
      exact law_calls (Bd := bdOf bdsSs) bodiesSs (f := 7) (by kernel_rfl) Tryd.func7 (by kernel_rfl) (by kernel_rfl) I G (tys := [(true, (.pr (.i .i64) (.pr .s (.pr .s (.pr (.pr (.i .i64) (.pr (.i .i64) .un)) (.pr (.i .i64) (.pr (.i .i64) (.pr (.sl (.i .i64)) .un)))))))), (true, (.pr (.i .i64) (.pr .s (.pr .s (.pr (.pr (.i .i64) (.pr (.i .i64) .un)) (.pr (.i .i64) (.pr (.i .i64) (.pr (.sl (.i .i64)) .un))))))))]) (by kernel_rfl)
        (fun s args hf ht hr => F.law_law32_ScriptSames has_law32_ScriptSames s args hf ht hr) hval hA)
theorem over : Rows.scriptSamesRow.holds Tryd.pinned (OpenSpec.ofChange Rows.scriptSamesSpec) :=
  OpenClaim.holds_of_wide 7 Tryd.f7 rfl rfl rfl rfl rfl rfl rfl ⟨rfl, rfl, rfl, rfl, rfl⟩ rfl rfl rfl rfl rfl (by kernel_rfl) Tryd.func7 (by kernel_rfl)
    (of_decide_eq_true (by kernel_rfl)) (by unfold Func.isWrapper; first | (rw [if_pos (by decide +kernel)]; kernel_rfl) | (rw [if_neg (by decide +kernel)]; exact ⟨rfl, rfl⟩))
    (fun os started H enc _ => lifted os started H enc)
end Go.Proofs.YtepnfdggeobcaabDoor.scriptSames
namespace Go.Proofs.YtepnfdggeobcaabDoor
theorem scriptSames_card_holds : Rows.ScriptSamesCardSaid :=
  Claim7.holds_tied_plain_at .later [] [.data] true (true, "eec6565fb1a0dcda9c65927b00e7a6d448a7e12bfd4ca28c51167ba6603050b8") false scriptSames.over (fun _ h => by cases h) (by kernel_rfl) (fun _ h => by cases h) scriptSames_row_tie rfl ⟨rfl, rfl⟩ (by kernel_rfl) rfl
    (fun f fn hf hfn => by
      obtain rfl : f = 7 := Option.some.inj ((show Tryd.prog.funcNamed "rickyard/rickyardlaw32.ScriptSames" = some 7 by kernel_rfl).symm.trans hf) |>.symm
      obtain rfl : fn = Tryd.f7 := (Option.some.inj (Tryd.func7.symm.trans hfn)).symm
      exact ⟨by kernel_rfl, Gv.noStandIn (l := [38, 38]) rfl (by kernel_rfl)⟩)
    (by kernel_rfl)
#print axioms scriptSames_card_holds
end Go.Proofs.YtepnfdggeobcaabDoor
