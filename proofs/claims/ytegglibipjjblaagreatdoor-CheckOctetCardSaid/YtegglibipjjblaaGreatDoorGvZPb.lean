/- Numbers as texts: base 10. -/
import Derived.Test.YtegglibipjjblaaGreatDoorGvZPa
import Derived.Lib.IndexLaws
set_option linter.all false
namespace Go.Gv.F
end Go.Gv.F
namespace Go.Gv.F
def sg (b:Bool) (a:Nat):Int:=if b then-(a:Int)else a
def Ay (x:Int) (dg:Nat) (mi:Bool):Option bQ:=some ⟨false,[.i x,.i (dg:Int),.bool mi]⟩
section
variable {Y:Type} (st:St) (x:Int) (dg:Nat) (mi:Bool)
theorem Fc (K:DV->M Y):bH st.length 0 K (st++[Ay x dg mi])=K (.i x) (st++[Ay x dg mi]):=Zn (f:=false) (all:=[.i x,.i (dg:Int),.bool mi]) (by simp[Ay]) rfl K
theorem ld1 (K:DV->M Y):bH st.length (0+1) K (st++[Ay x dg mi])=K (.i (dg:Int)) (st++[Ay x dg mi]):=Zn (f:=false) (all:=[.i x,.i (dg:Int),.bool mi]) (by simp[Ay]) rfl K
theorem ld2 (K:DV->M Y):bH st.length (0+2) K (st++[Ay x dg mi])=K (.bool mi) (st++[Ay x dg mi]):=Zn (f:=false) (all:=[.i x,.i (dg:Int),.bool mi]) (by simp[Ay]) rfl K
end
end Go.Gv.F
namespace Go.Gv.F
end Go.Gv.F
namespace Go.Gv.F
