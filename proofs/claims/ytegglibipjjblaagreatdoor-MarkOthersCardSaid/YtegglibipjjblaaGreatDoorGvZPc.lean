/- Words, joined, are the words again: plain facts. -/
import Derived.Test.YtegglibipjjblaaGreatDoorGvZPa
import Derived.Lib.Join
import Derived.Test.YtegglibipjjblaaGreatDoorGvZBod
import Derived.Test.YtegglibipjjblaaGreatDoorGvZPb
import Derived.Lib.IndexLaws
set_option linter.all false
namespace Go.Gv.F
open Go.Gv
end Go.Gv.F
namespace Go.Gv.F
open Go.Gv
theorem D9 (n:Nat) (d:DV):hZ n [d]=List.replicate n d:=by
 simp[hZ]
end Go.Gv.F
