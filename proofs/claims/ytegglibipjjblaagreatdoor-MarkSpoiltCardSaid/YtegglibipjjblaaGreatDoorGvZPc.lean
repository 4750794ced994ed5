/- Words, joined, are the words again: plain facts. -/
import Derived.Test.YtegglibipjjblaaGreatDoorGvZPa
import Derived.Lib.Join
import Derived.Test.YtegglibipjjblaaGreatDoorGvZBod
import Derived.Test.YtegglibipjjblaaGreatDoorGvZPb
import Derived.Lib.IndexLaws
namespace Go.Gv.F
open Go.Gv
end Go.Gv.F
namespace Go.Gv.F
open Go.Gv
theorem Ey (n:Nat) (d:DV):ig n [d]=List.replicate n d:=by
 unfold ig;induction n with
 |zero=>rfl
 |succ n ih=>rw[Gd,Gd,yh,ih];rfl
end Go.Gv.F
