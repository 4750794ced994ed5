/- How many bits a word has: the library's sum of fields is the number of its bits. -/
import Derived.Test.YtjcghijjmhhldaaGreatDoorGvZMe
set_option linter.all false
namespace Go.Gv.F
open Go.Gv
def g1 (n:Nat):Nat:=(n/2&&& 5)+(n&&& 5)
theorem ZlI: ∀(b:Nat) (W:al),rj b W=((List.range (64*W.length)).filter (ey W)).map λj=>((b*64+j:Nat):Int)
 |b,[]=>rfl
 |b,w::r=>by
  unfold rj;rw[ZlI (b+1) r,eK,show 64*(r.length+1)=64+64*r.length by omega,List.range_add,xp,fb];have hA:(List.range 64).filter (ey (w::r))=oa w:=by
   rfl
  have e:(ey (w::r)∘λi=>64+i)=ey r:=by
   funext j;simp[ey]
  rw[hA,List.filter_map,List.map_map,e];refine congrArg (_++ ·) (List.map_congr_left λj _=>?_);grind
theorem Znx (W:al):iD W=((List.range (64*W.length)).filter (ey W)).map λj=>((j:Nat):Int):=by
 simp[iD,ZlI,vA,ei]
end Go.Gv.F
