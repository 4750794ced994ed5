/- How many bits a word has: the library's sum of fields is the number of its bits. -/
import Derived.Test.YtegglibipjjblaaGreatDoorGvZMe
namespace Go.Gv.F
open Go.Gv
def g1 (n:Nat):Nat:=(n/2&&& 5)+(n&&& 5)
theorem Zn5: ∀(b:Nat) (W:al),w4 b W=((List.range (64*W.length)).filter (dM W)).map λj=>((b*64+j:Nat):Int)
 |b,[]=>rfl
 |b,w::r=>by
  unfold w4;rw[Zn5 (b+1) r,cH,show 64*(r.length+1)=64+64*r.length by omega,List.range_add,Ga,fg];have hA:(List.range 64).filter (dM (w::r))=qA w:=by
   unfold qA;refine List.filter_congr λj hj=>?_
   have:=yj.1 hj;unfold dM;rw[Nat.div_eq_of_lt (by omega),Nat.mod_eq_of_lt (by omega)];rfl
  have e:(dM (w::r)∘λi=>64+i)=dM r:=by
   funext j;show dM (w::r) (64+j)=dM r j;unfold dM;rw[show(64+j)/64=j/64+1 by omega,show(64+j)%64=j%64 by omega];rfl
  rw[hA,List.filter_map,List.map_map,e];refine congrArg (_++ ·) (List.map_congr_left λj _=>?_);show(((b+1)*64+j:Nat):Int)=((b*64+(64+j):Nat):Int);omega
theorem Zp7 (W:al):dJ W=((List.range (64*W.length)).filter (dM W)).map λj=>((j:Nat):Int):=by
 unfold dJ;rw[Zn5];refine List.map_congr_left λj _=>?_
 rw[od,ej]
end Go.Gv.F
