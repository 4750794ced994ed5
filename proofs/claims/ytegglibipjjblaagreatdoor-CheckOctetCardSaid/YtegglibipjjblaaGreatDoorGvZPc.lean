/- Words, joined, are the words again: plain facts. -/
import Derived.Lib.Join
import Derived.Test.YtegglibipjjblaaGreatDoorGvZPb
import Derived.Lib.IndexLaws
set_option linter.all false
namespace Go.Gv.F
open Go.Gv
end Go.Gv.F
namespace Go.Gv.F
open Go.Gv
theorem D4 (n:Nat) (d:DV):iO n [d]=List.replicate n d:=by
 simp[iO]
