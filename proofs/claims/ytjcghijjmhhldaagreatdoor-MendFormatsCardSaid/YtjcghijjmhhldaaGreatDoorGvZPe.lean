/- Words of a line are words; a line of words is just a joined one. Plain facts. -/
import Derived.Test.YtjcghijjmhhldaaGreatDoorGvZPd
set_option linter.all false
namespace Go.Gv.F
open Go.Gv
def tg (a b c d:Nat):Nat×Nat:=
  if a<128 then(a,1)
  else if (194<=a/\a<=223)/\(128<=b/\b<=191)then((a-192)*64+(b-128),2)
  else if (224<=a/\a<=239)/\((if a=224 then 160 else 128)<=b/\b<=(if a=237 then 159 else 191))/\(128<=c/\c<=191)then
   ((a-224)*4096+(b-128)*64+(c-128),3)
  else if (240<=a/\a<=244)/\((if a=240 then 144 else 128)<=b/\b<=(if a=244 then 143 else 191))/\(128<=c/\c<=191)/\(128<=d/\d<=191)then
   ((a-240)*262144+(b-128)*4096+(c-128)*64+(d-128),4)
  else(65533,1)
variable {i k n o:Nat}
theorem Sl.UO {β:Type} {s:St} {cs:af} (h:Sl s (some (i,o)) cs) (hk:k+n<=cs.length) (K:af->M β):bP i (k+o) n K s=K ((cs.drop k).take n) s:=by
 have⟨f,all,h1,h2,h3⟩:=h;rw[ZM h1 AC];congr 1;rw[<-h3,xm,List.take_take,je AC,kd,oz o k]
end Go.Gv.F
namespace Go.Gv.F
open Go.Gv
end Go.Gv.F
namespace Go.Gv.F
open Go.Gv
end Go.Gv.F
