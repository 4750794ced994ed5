/- Words, joined, are the words again: plain facts. -/
import Derived.Lib.Join
import Derived.Test.YtjcghijjmhhldaaGreatDoorGvZPb
import Derived.Lib.IndexLaws
set_option linter.all false
namespace Go.Gv.F
open Go.Gv
end Go.Gv.F
namespace Go.Gv.F
open Go.Gv
theorem qZ (n:Nat) (d:DV):fp n [d]=List.replicate n d:=by
 simp[fp]
end Go.Gv.F
