/- What a walk that is whole has shown: the state may be. No program in sight. -/
import Derived.Test.YtegglibipjjblaaGreatDoorGvMOk
set_option linter.all false
namespace Go.Gv.F
open Go.Gv
theorem Zvv (x y:E4):eY (FD x) (FD y)=fm x y:=by
 rw[lg,BT];unfold eY FD;simp only;split
 .rw[bC]
  omega
 grind
end Go.Gv.F
