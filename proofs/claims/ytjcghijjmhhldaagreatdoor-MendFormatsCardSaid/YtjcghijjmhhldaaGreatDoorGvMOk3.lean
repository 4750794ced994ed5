/- What a walk that is whole has shown: in sum. No program in sight. -/
import Derived.Test.YtjcghijjmhhldaaGreatDoorGvMOk2
set_option linter.all false
namespace Go.Gv.F
open Go.Gv
end Go.Gv.F
