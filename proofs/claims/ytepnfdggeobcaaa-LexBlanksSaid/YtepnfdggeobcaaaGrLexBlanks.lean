/- The row of the law LexBlanks: for every input that can be read, the law's call returns true and leaves what was there as it was. No condition. Written by gvrow.py. -/
import Derived.Test.YtepnfdggeobcaaaRows
import Derived.Test.YtepnfdggeobcaaaGvLaw
import Derived.Test.YtepnfdggeobcaaaGvTLaa
import Derived.Test.YtepnfdggeobcaaaGvPLex
namespace Go.Proofs.Ytepnfdggeobcaaa.lexBlanks
open Go.Gv
set_option maxRecDepth 100000 in
theorem lifted (os : Os) (started : os.Started) (H : Type) (enc : TypeId × Value → H) :
    ReturnsInHanded {} Try.checked os 4 .any (Rows.lexBlanksSpec.pre6 enc Try.prog Try.f4 [] false) (Rows.lexBlanksSpec.post enc Try.prog Try.f4 false true false false) :=
  law_lifted (C := cfgLaa) (Ck := Try.checked) rfl started (by kernel_rfl) (by kernel_rfl) Try.func4 (by kernel_rfl) rfl rfl Try.underlying4 (by kernel_rfl)
    (fun ds h => by
      have h' : ds.length = 3 := h
      match ds, h' with
      | [d0, d1, d2], _ => exact ⟨rfl, rfl, rfl⟩)
    (ChangeSpec.witness6 (enc := enc) (C := Try.checked) false ⟨#[], #[.slice none 0 0, .string ByteArray.empty, .string ByteArray.empty], []⟩ 8 (by kernel_rfl) (by kernel_rfl) (by kernel_rfl) (by kernel_rfl))
    (fun W args ds p base hval hA => law_calls (Bd := bdOf bdsLaa) bodiesLaa (f := 4) (by kernel_rfl) Try.func4 (by kernel_rfl) (by kernel_rfl) (OI.empty _ W) (fun _ h => by cases h) (tys := [(false, (.sl .s)), (false, .s), (false, .s)]) (by kernel_rfl)
      (fun s args hf _ hr => F.law_law31_LexBlanks has_law31_LexBlanks s args hf hr) hval hA)
theorem over : Rows.lexBlanksRow.holds Try.pinned (OpenSpec.ofChange Rows.lexBlanksSpec) :=
  OpenClaim.holds_of_wide 4 Try.f4 rfl rfl rfl rfl rfl rfl rfl ⟨rfl, rfl, rfl, rfl, rfl⟩ rfl rfl rfl rfl rfl (by kernel_rfl) Try.func4 (by kernel_rfl)
    (of_decide_eq_true (by kernel_rfl)) (by unfold Func.isWrapper; first | (rw [if_pos (by decide +kernel)]; kernel_rfl) | (rw [if_neg (by decide +kernel)]; exact ⟨rfl, rfl⟩))
    (fun os started H enc _ => lifted os started H enc)
end Go.Proofs.Ytepnfdggeobcaaa.lexBlanks
namespace Go.Proofs.Ytepnfdggeobcaaa
theorem lexBlanks_holds : Rows.LexBlanksSaid := lexBlanks.over
#print axioms lexBlanks_holds
end Go.Proofs.Ytepnfdggeobcaaa
