/- Numbers as texts: base 10. -/
import Derived.Test.YtegglibipjjblaaGreatDoorGvZPa
import Derived.Test.YtegglibipjjblaaGreatDoorGvZBod
import Derived.Lib.IndexLaws
namespace Go.Gv.F
end Go.Gv.F
namespace Go.Gv.F
end Go.Gv.F
namespace Go.Gv.F
def Qc (x:Int) (dg:Nat) (mi:Bool):Option bq:=some ⟨false,[.int .i64 x,.int .i64 (dg:Int),.bool mi]⟩
section
variable {β:Type} (st:St) (x:Int) (dg:Nat) (mi:Bool)
theorem ld0 (K:DV->M β):M.au st.length 0 K (st++[Qc x dg mi])=K (.int .i64 x) (st++[Qc x dg mi]):=Zn (f:=false) (all:=[.int .i64 x,.int .i64 (dg:Int),.bool mi]) (by simp[Qc]) rfl K
end
end Go.Gv.F
namespace Go.Gv.F
end Go.Gv.F
namespace Go.Gv.F
end Go.Gv.F
namespace Go.Gv.F
end Go.Gv.F
namespace Go.Gv.F
end Go.Gv.F
