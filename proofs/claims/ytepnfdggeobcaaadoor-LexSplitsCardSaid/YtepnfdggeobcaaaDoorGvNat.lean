/- Functions that have no body: they answer as the model says. -/
import Derived.Test.YtepnfdggeobcaaaDoorGvFun
import Derived.Laws.Externs
import Derived.Lib.Bytealg
namespace Go.Gv

def nat_IndexByteString : Oracle → Nat → List DV → M (List DV) := fun _ _ args =>
  match args with
  | [.str s, .int .u8 c] => M.ret [.int .i64 (Lib.indexByte s c.toNat.toUInt8)]
  | _ => fail
def nat_CountString : Oracle → Nat → List DV → M (List DV) := fun _ _ args =>
  match args with
  | [.str s, .int .u8 c] => M.ret [.int .i64 (Lib.countByte s c.toNat.toUInt8)]
  | _ => fail

theorem nat_IndexByteString_ok {C : Cfg} {f : FuncId} {fn : Func} (hfn : C.P.funcs[f]? = some fn) (hname : (fn.name == "runtime.NumGoroutine") = false) (hb : fn.body.isNone = true) (hn : Extern.findNext fn = none)
    (he : Extern.find fn = some Extern.BytealgIndexByte.indexByte) : BodyOK C nat_IndexByteString f := by
  intro c n args s out _ h
  unfold nat_IndexByteString at h
  split at h
  · cases h
    refine ⟨Nat.le_refl _, fun ψ w vs hs _ _ hv _ _ => ?_⟩
    cases hv with
    | cons _ _ _ _ a b =>
      cases b with
      | cons _ _ _ _ a2 b2 =>
        cases b2
        cases a
        cases a2
        unfold CallSem
        rw [run_callFunc_extern hfn hname hb hn he]
        rw [Lib.run_indexByteString]
        exact ⟨_, rfl, ψ, ⟨hs, Ext.refl _ _ _, fun h cb e => .inl e⟩, .inl ⟨_, rfl, .int _ _⟩⟩
  · cases h
theorem nat_CountString_ok {C : Cfg} {f : FuncId} {fn : Func} (hfn : C.P.funcs[f]? = some fn) (hname : (fn.name == "runtime.NumGoroutine") = false) (hb : fn.body.isNone = true) (hn : Extern.findNext fn = none)
    (he : Extern.find fn = some Extern.BytealgCount.count) : BodyOK C nat_CountString f := by
  intro c n args s out _ h
  unfold nat_CountString at h
  split at h
  · cases h
    refine ⟨Nat.le_refl _, fun ψ w vs hs _ _ hv _ _ => ?_⟩
    cases hv with
    | cons _ _ _ _ a b =>
      cases b with
      | cons _ _ _ _ a2 b2 =>
        cases b2
        cases a
        cases a2
        unfold CallSem
        rw [run_callFunc_extern hfn hname hb hn he]
        rw [Lib.run_countString]
        exact ⟨_, rfl, ψ, ⟨hs, Ext.refl _ _ _, fun h cb e => .inl e⟩, .inl ⟨_, rfl, .int _ _⟩⟩
  · cases h
end Go.Gv
