/- Functions of the program, as the machine runs them: written by gvseat.py. -/
import Derived.Test.YtjcghijjmhhldaaGreatDoorGvBMc
set_option linter.all false
namespace Go.Gv
set_option maxRecDepth 10000
set_option maxHeartbeats 4000000
noncomputable section
end
end Go.Gv
