/- What a walk that is whole has shown: the state may be. No program in sight. -/
import Derived.Test.YtjcghijjmhhldaaGreatDoorGvMOk
set_option linter.all false
namespace Go.Gv.F
open Go.Gv
end Go.Gv.F
