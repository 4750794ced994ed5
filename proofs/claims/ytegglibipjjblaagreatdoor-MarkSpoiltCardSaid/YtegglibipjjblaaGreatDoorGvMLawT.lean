/- The law of states that were laid into an image. -/
import Derived.Test.YtegglibipjjblaaGreatDoorGvZMg
import Derived.Test.YtegglibipjjblaaGreatDoorGvZMe
namespace Go.Gv.F
open Go.Gv
theorem je.HW {s:St} (hf:JW s): ∀ {ds:ah} {xs:List dr},je s ds xs->vo s ds xs
 |_,[],h=>h
 |_,_::_,⟨z,p,t,hz,h1,h2,h3⟩=>⟨z,p,t,hz,h1,h2.fz hf,h3.HW hf⟩
theorem ny.agx {s:St} (hf:JW s) {x:eO} {p1 p2 p3:ai} (h:ny s x p1 p2 p3):zR s x p1 p2 p3:=
 let ⟨ds,h1,h2⟩:=h.hp
 ⟨⟨ds,h1.fz hf,h2.HW hf⟩,h.gn.fz hf,h.fr.fz hf⟩
end Go.Gv.F
