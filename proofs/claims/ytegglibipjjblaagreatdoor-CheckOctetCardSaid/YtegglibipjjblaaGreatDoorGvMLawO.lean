/- The law of what a walk tells: entries in order, handles of their own. -/
import Derived.Test.YtegglibipjjblaaGreatDoorGvZMf
import Derived.Test.YtegglibipjjblaaGreatDoorGvMOk3
set_option linter.all false
namespace Go.Gv.F
open Go.Gv
variable {Y:Type}
