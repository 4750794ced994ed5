/- Words, joined, are the words again: plain facts. -/
import Derived.Test.YtegglibipjjblaaGreatDoorGvZPa
import Derived.Lib.Join
import Derived.Test.YtegglibipjjblaaGreatDoorGvZBod
import Derived.Test.YtegglibipjjblaaGreatDoorGvZPb
import Derived.Lib.IndexLaws
namespace Go.Gv.F
open Go.Gv
end Go.Gv.F
namespace Go.Gv.F
open Go.Gv
end Go.Gv.F
namespace Go.Gv.F
open Go.Gv
theorem ZhU (n:Nat) (d:DV):rep n [d]=List.replicate n d:=by
 unfold rep;induction n with
 |zero=>rfl
 |succ n ih=>rw[List.replicate_succ,List.replicate_succ,List.flatten_cons,ih];rfl
end Go.Gv.F
namespace Go.Gv.F
open Go.Gv
end Go.Gv.F
