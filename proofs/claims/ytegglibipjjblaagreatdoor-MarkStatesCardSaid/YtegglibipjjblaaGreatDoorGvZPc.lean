/- Words, joined, are the words again: plain facts. -/
import Derived.Test.YtegglibipjjblaaGreatDoorGvZPa
import Derived.Lib.Join
import Derived.Test.YtegglibipjjblaaGreatDoorGvZBod
import Derived.Test.YtegglibipjjblaaGreatDoorGvZPb
import Derived.Lib.IndexLaws
namespace Go.Gv.F
open Go.Gv
end Go.Gv.F
namespace Go.Gv.F
open Go.Gv
end Go.Gv.F
namespace Go.Gv.F
open Go.Gv
theorem z7 (n:Nat) (d:DV):fj n [d]=List.replicate n d:=by
 unfold fj;induction n with
 |zero=>rfl
 |succ n ih=>rw[sb,sb,mQ,ih];rfl
end Go.Gv.F
namespace Go.Gv.F
open Go.Gv
end Go.Gv.F
