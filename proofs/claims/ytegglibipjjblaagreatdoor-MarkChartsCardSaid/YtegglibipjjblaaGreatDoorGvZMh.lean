/- How many bits a word has: the library's sum of fields is the number of its bits. -/
import Derived.Test.YtegglibipjjblaaGreatDoorGvZMe
namespace Go.Gv.F
open Go.Gv
def g1 (n:Nat):Nat:=(n/2&&& 5)+(n&&& 5)
end Go.Gv.F
namespace Go.Gv.F
open Go.Gv
theorem Zo9: ∀(b:Nat) (W:List Nat),qI b W=((List.range (64*W.length)).filter (cR W)).map fun j=>((b*64+j:Nat):Int)
 |b,[]=>rfl
 |b,w::r=>by
  unfold qI;rw[Zo9 (b+1) r,dF,show 64*(r.length+1)=64+64*r.length by omega,List.range_add,zQ,dL];have hA:(List.range 64).filter (cR (w::r))=nx w:=by
   unfold nx;refine List.filter_congr fun j hj=>?_
   have:=jE.1 hj;unfold cR;rw[Nat.div_eq_of_lt (by omega),Ca (by omega)];rfl
  have e:(cR (w::r)∘fun i=>64+i)=cR r:=by
   funext j;show cR (w::r) (64+j)=cR r j;unfold cR;rw[show(64+j)/64=j/64+1 by omega,show(64+j)%64=j%64 by omega];rfl
  rw[hA,List.filter_map,xT,e];refine congrArg (_++ ·) (xS fun j _=>?_);show(((b+1)*64+j:Nat):Int)=((b*64+(64+j):Nat):Int);omega
theorem Zsf (W:List Nat):eI W=((List.range (64*W.length)).filter (cR W)).map fun j=>((j:Nat):Int):=by
 unfold eI;rw[Zo9];refine xS fun j _=>?_
 rw[nf,dj]
end Go.Gv.F
