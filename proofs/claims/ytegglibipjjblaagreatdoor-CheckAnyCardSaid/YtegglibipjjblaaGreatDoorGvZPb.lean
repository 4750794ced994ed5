/- Numbers as texts: base 10. -/
import Derived.Test.YtegglibipjjblaaGreatDoorGvZPa
import Derived.Lib.IndexLaws
set_option linter.all false
namespace Go.Gv.F
end Go.Gv.F
namespace Go.Gv.F
def sg (b:Bool) (a:Nat):Int:=if b then-(a:Int)else a
def zV (x:Int) (dg:Nat) (mi:Bool):Option bO:=some ⟨false,[.int .i64 x,.int .i64 (dg:Int),.bool mi]⟩
section
variable {β:Type} (st:St) (x:Int) (dg:Nat) (mi:Bool)
def EF (K:DV->M β):bD st.length 0 K (st++[zV x dg mi])=K (.int .i64 x) (st++[zV x dg mi]):=Zo (f:=false) (all:=[.int .i64 x,.int .i64 (dg:Int),.bool mi]) (by simp[zV]) rfl K
def ld1 (K:DV->M β):bD st.length (0+1) K (st++[zV x dg mi])=K (.int .i64 (dg:Int)) (st++[zV x dg mi]):=Zo (f:=false) (all:=[.int .i64 x,.int .i64 (dg:Int),.bool mi]) (by simp[zV]) rfl K
def Yw (K:DV->M β):bD st.length (0+2) K (st++[zV x dg mi])=K (.bool mi) (st++[zV x dg mi]):=Zo (f:=false) (all:=[.int .i64 x,.int .i64 (dg:Int),.bool mi]) (by simp[zV]) rfl K
end
end Go.Gv.F
namespace Go.Gv.F
end Go.Gv.F
namespace Go.Gv.F
end Go.Gv.F
