/- Numbers as texts: base 10. -/
import Derived.Test.YtegglibipjjblaaGreatDoorGvZPa
import Derived.Lib.IndexLaws
set_option linter.all false
namespace Go.Gv.F
end Go.Gv.F
namespace Go.Gv.F
def sg (b:Bool) (a:Nat):Int:=if b then-(a:Int)else a
def An (x:Int) (dg:Nat) (mi:Bool):Option bO:=some ⟨false,[.i x,.i (dg:Int),.bool mi]⟩
section
variable {β:Type} (st:St) (x:Int) (dg:Nat) (mi:Bool)
theorem Bm (K:DV->M β):bD st.length 0 K (st++[An x dg mi])=K (.i x) (st++[An x dg mi]):=Zo (f:=false) (all:=[.i x,.i (dg:Int),.bool mi]) (by simp[An]) rfl K
theorem ld1 (K:DV->M β):bD st.length (0+1) K (st++[An x dg mi])=K (.i (dg:Int)) (st++[An x dg mi]):=Zo (f:=false) (all:=[.i x,.i (dg:Int),.bool mi]) (by simp[An]) rfl K
theorem ld2 (K:DV->M β):bD st.length (0+2) K (st++[An x dg mi])=K (.bool mi) (st++[An x dg mi]):=Zo (f:=false) (all:=[.i x,.i (dg:Int),.bool mi]) (by simp[An]) rfl K
end
end Go.Gv.F
namespace Go.Gv.F
end Go.Gv.F
namespace Go.Gv.F
end Go.Gv.F
