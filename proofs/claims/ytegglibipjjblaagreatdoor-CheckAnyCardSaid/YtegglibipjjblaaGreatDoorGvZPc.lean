/- Words, joined, are the words again: plain facts. -/
import Derived.Lib.Join
import Derived.Test.YtegglibipjjblaaGreatDoorGvZPb
import Derived.Lib.IndexLaws
set_option linter.all false
namespace Go.Gv.F
open Go.Gv
end Go.Gv.F
namespace Go.Gv.F
open Go.Gv
theorem DK (n:Nat) (d:DV):il n [d]=List.replicate n d:=by
 simp[il]
end Go.Gv.F
