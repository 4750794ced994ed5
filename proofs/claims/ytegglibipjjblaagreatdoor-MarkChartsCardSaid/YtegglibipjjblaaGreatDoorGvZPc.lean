/- Words, joined, are the words again: plain facts. -/
import Derived.Test.YtegglibipjjblaaGreatDoorGvZPa
import Derived.Lib.Join
import Derived.Test.YtegglibipjjblaaGreatDoorGvZBod
import Derived.Test.YtegglibipjjblaaGreatDoorGvZPb
import Derived.Lib.IndexLaws
namespace Go.Gv.F
open Go.Gv
end Go.Gv.F
namespace Go.Gv.F
open Go.Gv
end Go.Gv.F
namespace Go.Gv.F
open Go.Gv
theorem AO (n:Nat) (d:DV):fD n [d]=List.replicate n d:=by
 unfold fD;induction n with
 |zero=>rfl
 |succ n ih=>rw[sM,sM,mo,ih];rfl
end Go.Gv.F
namespace Go.Gv.F
open Go.Gv
end Go.Gv.F
