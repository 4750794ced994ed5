/- Numbers as texts: base 10. -/
import Derived.Test.YtjcghijjmhhldaaGreatDoorGvZPa
import Derived.Lib.IndexLaws
set_option linter.all false
namespace Go.Gv.F
end Go.Gv.F
namespace Go.Gv.F
section
variable {β:Type} (st:St) (x:Int) (dg:Nat) (mi:Bool)
end
end Go.Gv.F
namespace Go.Gv.F
end Go.Gv.F
namespace Go.Gv.F
end Go.Gv.F
