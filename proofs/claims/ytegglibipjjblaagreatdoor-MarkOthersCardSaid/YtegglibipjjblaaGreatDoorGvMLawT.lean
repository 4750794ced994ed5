/- The law of states that were laid into an image. -/
import Derived.Test.YtegglibipjjblaaGreatDoorGvZMg
import Derived.Test.YtegglibipjjblaaGreatDoorGvZMe
set_option linter.all false
namespace Go.Gv.F
open Go.Gv
theorem iZ.HB {s:St} (hf:Jt s): ∀ {ds:ah} {xs:List di},iZ s ds xs->uM s ds xs
 |_,[],h=>h
 |_,_::_,⟨z,p,t,hz,h1,h2,h3⟩=>⟨z,p,t,hz,h1,h2.fz hf,h3.HB hf⟩
theorem na.afQ {s:St} (hf:Jt s) {x:eL} {p1 p2 p3:ai} (h:na s x p1 p2 p3):zs s x p1 p2 p3:=
 let ⟨ds,h1,h2⟩:=h.hp
 ⟨⟨ds,h1.fz hf,h2.HB hf⟩,h.gn.fz hf,h.fr.fz hf⟩
end Go.Gv.F
