/- The row of the law LexJoins: for every input that can be read, the law's call returns true and leaves what was there as it was. No condition. Written by gvrow.py. -/
import Derived.Test.YtepnfdggeobcaaaRows
import Derived.Test.YtepnfdggeobcaaaGvLaw
import Derived.Test.YtepnfdggeobcaaaGvTLj
import Derived.Test.YtepnfdggeobcaaaGvPJoin
namespace Go.Proofs.Ytepnfdggeobcaaa.lexJoins
open Go.Gv
set_option maxRecDepth 100000 in
theorem lifted (os : Os) (started : os.Started) (H : Type) (enc : TypeId × Value → H) :
    ReturnsInHanded {} Try.checked os 5 .any (Rows.lexJoinsSpec.pre6 enc Try.prog Try.f5 [] false) (Rows.lexJoinsSpec.post enc Try.prog Try.f5 false true false false) :=
  law_lifted (C := cfgLj) (Ck := Try.checked) rfl started (by kernel_rfl) (by kernel_rfl) Try.func5 (by kernel_rfl) rfl rfl Try.underlying4 (by kernel_rfl)
    (fun ds h => by
      have h' : ds.length = 1 := h
      match ds, h' with
      | [d0], _ => exact ⟨rfl, rfl, rfl⟩)
    (ChangeSpec.witness6 (enc := enc) (C := Try.checked) false ⟨#[], #[.slice none 0 0], []⟩ 8 (by kernel_rfl) (by kernel_rfl) (by kernel_rfl) (by kernel_rfl))
    (fun W args ds p base hval hA => law_calls (Bd := bdOf bdsLj) bodiesLj (f := 5) (by kernel_rfl) Try.func5 (by kernel_rfl) (by kernel_rfl) (OI.empty _ W) (fun _ h => by cases h) (tys := [(false, (.sl .s))]) (by kernel_rfl)
      (fun s args hf _ hr => F.law_law31_LexJoins has_law31_LexJoins s args hf hr) hval hA)
theorem over : Rows.lexJoinsRow.holds Try.pinned (OpenSpec.ofChange Rows.lexJoinsSpec) :=
  OpenClaim.holds_of_wide 5 Try.f5 rfl rfl rfl rfl rfl rfl rfl ⟨rfl, rfl, rfl, rfl, rfl⟩ rfl rfl rfl rfl rfl (by kernel_rfl) Try.func5 (by kernel_rfl)
    (of_decide_eq_true (by kernel_rfl)) (by unfold Func.isWrapper; first | (rw [if_pos (by decide +kernel)]; kernel_rfl) | (rw [if_neg (by decide +kernel)]; exact ⟨rfl, rfl⟩))
    (fun os started H enc _ => lifted os started H enc)
end Go.Proofs.Ytepnfdggeobcaaa.lexJoins
namespace Go.Proofs.Ytepnfdggeobcaaa
theorem lexJoins_holds : Rows.LexJoinsSaid := lexJoins.over
#print axioms lexJoins_holds
end Go.Proofs.Ytepnfdggeobcaaa
