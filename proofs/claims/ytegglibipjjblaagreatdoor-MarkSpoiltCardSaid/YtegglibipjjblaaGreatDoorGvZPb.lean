/- Numbers as texts: base 10. -/
import Derived.Test.YtegglibipjjblaaGreatDoorGvZPa
import Derived.Test.YtegglibipjjblaaGreatDoorGvZBod
import Derived.Lib.IndexLaws
namespace Go.Gv.F
end Go.Gv.F
namespace Go.Gv.F
def sg (b:Bool) (a:Nat):Int:=if b then-(a:Int)else a
def yA (x:Int) (dg:Nat) (mi:Bool):Option bT:=some ⟨false,[.int .i64 x,.int .i64 (dg:Int),.bool mi]⟩
section
variable {β:Type} (st:St) (x:Int) (dg:Nat) (mi:Bool)
theorem zs (K:DV->M β):bG st.length 0 K (st++[yA x dg mi])=K (.int .i64 x) (st++[yA x dg mi]):=Zo (f:=false) (all:=[.int .i64 x,.int .i64 (dg:Int),.bool mi]) (by simp[yA]) rfl K
theorem ld1 (K:DV->M β):bG st.length (0+1) K (st++[yA x dg mi])=K (.int .i64 (dg:Int)) (st++[yA x dg mi]):=Zo (f:=false) (all:=[.int .i64 x,.int .i64 (dg:Int),.bool mi]) (by simp[yA]) rfl K
theorem Wi (K:DV->M β):bG st.length (0+2) K (st++[yA x dg mi])=K (.bool mi) (st++[yA x dg mi]):=Zo (f:=false) (all:=[.int .i64 x,.int .i64 (dg:Int),.bool mi]) (by simp[yA]) rfl K
end
end Go.Gv.F
namespace Go.Gv.F
end Go.Gv.F
namespace Go.Gv.F
end Go.Gv.F
