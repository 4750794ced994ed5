/- How many bits a word has: the library's sum of fields is the number of its bits. -/
import Derived.Test.YtegglibipjjblaaGreatDoorGvZMe
set_option linter.all false
namespace Go.Gv.F
open Go.Gv
def g1 (n:Nat):Nat:=(n/2&&& 5)+(n&&& 5)
theorem Znl: ∀(b:Nat) (W:al),wI b W=((List.range (64*W.length)).filter (dT W)).map λj=>((b*64+j:Nat):Int)
 |b,[]=>rfl
 |b,w::r=>by
  unfold wI;rw[Znl (b+1) r,cO,show 64*(r.length+1)=64+64*r.length by omega,List.range_add,FM,fB];have hA:(List.range 64).filter (dT (w::r))=sL w:=by
   rfl
  have e:(dT (w::r)∘λi=>64+i)=dT r:=by
   funext j;simp[dT]
  rw[hA,List.filter_map,List.map_map,e];refine congrArg (_++ ·) (List.map_congr_left λj _=>?_);grind
theorem ZpB (W:al):dC W=((List.range (64*W.length)).filter (dT W)).map λj=>((j:Nat):Int):=by
 simp[dC,Znl,qK,eW]
end Go.Gv.F
