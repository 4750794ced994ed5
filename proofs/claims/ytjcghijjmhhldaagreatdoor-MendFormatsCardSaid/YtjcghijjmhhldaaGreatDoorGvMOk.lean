/- What a walk that is whole has shown: sets, seats, entries. No program in sight. -/
import Derived.Test.YtjcghijjmhhldaaGreatDoorGvZMh
set_option linter.all false
namespace Go.Gv.F
open Go.Gv
end Go.Gv.F
