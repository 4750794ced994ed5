/- How many bits a word has: the library's sum of fields is the number of its bits. -/
import Derived.Test.YtegglibipjjblaaGreatDoorGvZMe
namespace Go.Gv.F
open Go.Gv
def g1 (n:Nat):Nat:=(n/2&&& 5)+(n&&& 5)
end Go.Gv.F
namespace Go.Gv.F
open Go.Gv
theorem Zpd: ∀(b:Nat) (W:List Nat),sH b W=((List.range (64*W.length)).filter (dI W)).map fun j=>((b*64+j:Nat):Int)
 |b,[]=>rfl
 |b,w::r=>by
  unfold sH;rw[Zpd (b+1) r,ee,show 64*(r.length+1)=64+64*r.length by omega,List.range_add,w8,dD];have hA:(List.range 64).filter (dI (w::r))=nb w:=by
   unfold nb;refine List.filter_congr fun j hj=>?_
   have:=jd.1 hj;unfold dI;rw[Nat.div_eq_of_lt (by omega),Bx (by omega)];rfl
  have e:(dI (w::r)∘fun i=>64+i)=dI r:=by
   funext j;show dI (w::r) (64+j)=dI r j;unfold dI;rw[show(64+j)/64=j/64+1 by omega,show(64+j)%64=j%64 by omega];rfl
  rw[hA,List.filter_map,xb,e];refine congrArg (_++ ·) (vd fun j _=>?_);show(((b+1)*64+j:Nat):Int)=((b*64+(64+j):Nat):Int);omega
theorem Zrr (W:List Nat):lh W=((List.range (64*W.length)).filter (dI W)).map fun j=>((j:Nat):Int):=by
 unfold lh;rw[Zpd];refine vd fun j _=>?_
 rw[nV,dy]
end Go.Gv.F
