/- How many bits a word has: the library's sum of fields is the number of its bits. -/
import Derived.Test.YtegglibipjjblaaGreatDoorGvZMe
set_option linter.all false
namespace Go.Gv.F
open Go.Gv
def g1 (n:Nat):Nat:=(n/2&&& 5)+(n&&& 5)
theorem ZpJ: ∀(b:Nat) (W:al),yG b W=((List.range (64*W.length)).filter (cD W)).map λj=>((b*64+j:Nat):Int)
 |b,[]=>rfl
 |b,w::r=>by
  unfold yG;rw[ZpJ (b+1) r,cQ,show 64*(r.length+1)=64+64*r.length by omega,List.range_add,HY,eV];have hA:(List.range 64).filter (cD (w::r))=vd w:=by
   rfl
  have e:(cD (w::r)∘λi=>64+i)=cD r:=by
   funext j;simp[cD]
  rw[hA,List.filter_map,uF,e];refine congrArg (_++ ·) (FB λj _=>?_);grind
theorem Zrf (W:al):dz W=((List.range (64*W.length)).filter (cD W)).map λj=>((j:Nat):Int):=by
 simp[dz,ZpJ,rU,fq]
