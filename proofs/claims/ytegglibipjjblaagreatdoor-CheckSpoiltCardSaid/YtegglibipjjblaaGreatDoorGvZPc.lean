/- Words, joined, are the words again: plain facts. -/
import Derived.Lib.Join
import Derived.Test.YtegglibipjjblaaGreatDoorGvZPb
import Derived.Lib.IndexLaws
set_option linter.all false
namespace Go.Gv.F
open Go.Gv
end Go.Gv.F
namespace Go.Gv.F
open Go.Gv
theorem Ec (n:Nat) (d:DV):iD n [d]=List.replicate n d:=by
 simp[iD]
end Go.Gv.F
