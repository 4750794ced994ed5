/- strings.Repeat: a body of our own, joined to the kit's contract. -/
import Derived.Test.YtanmddhmkphilaaGreatDoorGvShelf
import Derived.Shelf.Strings.Repeat
namespace Go.Gv
open Go.RowKit
end Go.Gv
