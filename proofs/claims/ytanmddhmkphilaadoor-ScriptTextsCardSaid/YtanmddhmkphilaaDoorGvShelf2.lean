/- strings.Repeat: a body of our own, joined to the kit's contract. -/
import Derived.Test.YtanmddhmkphilaaDoorGvShelf
import Derived.Shelf.Strings.Repeat
namespace Go.Gv
open Go.RowKit

def lib_Repeat : Oracle → Nat → List DV → M (List DV) := fun _ _ args =>
  match args with
  | [.str s, .int .i64 (.ofNat n)] => bif Nat.ble n 1000000 && Nat.ble (s.length * n) 140737488355328 then M.ret [.str (Lib.repeatL s n)] else fail
  | _ => fail

theorem lib_Repeat_ok {C : Cfg} {ρ : Go.Shelf.Ren} (L : Go.Proofs.Lays.n105 C.P ρ) (X : Go.Proofs.Builder.Extra C.P ρ) {f : FuncId} (hf : ρ.f 105 = f) {fn : Func} (hfn : C.P.funcs[f]? = some fn) (hname : (fn.name == "runtime.NumGoroutine") = false) (hb : fn.body.isSome = true) :
    BodyOK C lib_Repeat f := by
  subst hf
  intro c n args s out _ h
  unfold lib_Repeat at h
  split at h
  · rename_i t n
    obtain ⟨hg, h⟩ := cond_some h
    simp only [Bool.and_eq_true] at hg
    have h1 := Nat.le_of_ble_eq_true hg.1
    have h2 := Nat.le_of_ble_eq_true hg.2
    cases h
    refine ⟨Nat.le_refl _, fun ψ w vs hs hbl _ hv _ _ => ?_⟩
    cases hv with
    | cons _ _ _ _ a b =>
      cases b with
      | cons _ _ _ _ a2 b2 =>
        cases b2
        cases a with
        | str sp =>
        cases a2
        refine callSem_enter hfn hname hb ?_
        refine (Go.Proofs.Any.strings_Repeat L X sp n w (by omega) (by rw [Lib.size_eq]; exact h2)).mono ?_
        rintro e w' ⟨rfl, hbw⟩
        exact ⟨_, rfl, ψ, callPost_below hs hbl hbw, .inl ⟨_, rfl, .str ⟨_⟩⟩⟩
  · cases h
end Go.Gv
