/- Numbers as texts: base 10. -/
import Derived.Test.YtegglibipjjblaaGreatDoorGvZPa
import Derived.Test.YtegglibipjjblaaGreatDoorGvZBod
import Derived.Lib.IndexLaws
set_option linter.all false
namespace Go.Gv.F
end Go.Gv.F
namespace Go.Gv.F
def sg (b:Bool) (a:Nat):Int:=if b then-(a:Int)else a
def x0 (x:Int) (dg:Nat) (mi:Bool):Option bT:=some ⟨false,[.int .i64 x,.int .i64 (dg:Int),.bool mi]⟩
section
variable {β:Type} (st:St) (x:Int) (dg:Nat) (mi:Bool)
theorem CU (K:DV->M β):bF st.length 0 K (st++[x0 x dg mi])=K (.int .i64 x) (st++[x0 x dg mi]):=Zo (f:=false) (all:=[.int .i64 x,.int .i64 (dg:Int),.bool mi]) (by simp[x0]) rfl K
theorem ld1 (K:DV->M β):bF st.length (0+1) K (st++[x0 x dg mi])=K (.int .i64 (dg:Int)) (st++[x0 x dg mi]):=Zo (f:=false) (all:=[.int .i64 x,.int .i64 (dg:Int),.bool mi]) (by simp[x0]) rfl K
theorem VJ (K:DV->M β):bF st.length (0+2) K (st++[x0 x dg mi])=K (.bool mi) (st++[x0 x dg mi]):=Zo (f:=false) (all:=[.int .i64 x,.int .i64 (dg:Int),.bool mi]) (by simp[x0]) rfl K
end
end Go.Gv.F
namespace Go.Gv.F
end Go.Gv.F
namespace Go.Gv.F
end Go.Gv.F
