/- Words of a line are words; a line of words is just a joined one. Plain facts. -/
import Derived.Test.YtegglibipjjblaaGreatDoorGvZPd
set_option linter.all false
namespace Go.Gv.F
open Go.Gv
def AJ (a b c d:Nat):Nat×Nat:=
  if a<128 then(a,1)
  else if (194<=a/\a<=223)/\(128<=b/\b<=191)then((a-192)*64+(b-128),2)
  else if (224<=a/\a<=239)/\((if a=224 then 160 else 128)<=b/\b<=(if a=237 then 159 else 191))/\(128<=c/\c<=191)then
   ((a-224)*4096+(b-128)*64+(c-128),3)
  else if (240<=a/\a<=244)/\((if a=240 then 144 else 128)<=b/\b<=(if a=244 then 143 else 191))/\(128<=c/\c<=191)/\(128<=d/\d<=191)then
   ((a-240)*262144+(b-128)*4096+(c-128)*64+(d-128),4)
  else(65533,1)
variable {i k n o:Nat}
theorem Sl.yU {Y:Type} {s:St} {cs:ah} (h:Sl s (some (i,o)) cs) (hk:k+n<=cs.length) (K:ah->M Y):bV i (k+o) n K s=K ((cs.drop k).take n) s:=by
 have⟨f,all,h1,h2,h3⟩:=h;rw[kq h1 AC];congr 1;rw[<-h3,BC,H2,pA AC,kd,tm o k]
end Go.Gv.F
namespace Go.Gv.F
open Go.Gv
theorem Zy1 {Y:Type} (sz:Nat) (a:ai) (n:Nat) (ds:ah) (lim:Nat) (K:ai->M Y) (s:St):cu sz a n ds 0 lim K s=K a s:=rfl
end Go.Gv.F
namespace Go.Gv.F
open Go.Gv
