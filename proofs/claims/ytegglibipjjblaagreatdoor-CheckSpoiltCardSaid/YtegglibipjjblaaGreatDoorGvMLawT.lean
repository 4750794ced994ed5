/- The law of states that were laid into an image. -/
import Derived.Test.YtegglibipjjblaaGreatDoorGvZMg
set_option linter.all false
namespace Go.Gv.F
open Go.Gv
theorem jo.J9 {s:St} (hf:Mn s): ∀ {ds:ah} {xs:List dJ},jo s ds xs->wH s ds xs
 |_,[],h=>h
 |_,_::_,⟨z,p,t,hz,h1,h2,h3⟩=>⟨z,p,t,hz,h1,h2.fz hf,h3.J9 hf⟩
theorem jK.aku {s:St} (hf:Mn s) {x:eR} {p1 p2 p3:ai} (h:jK s x p1 p2 p3):BP s x p1 p2 p3:=
 let ⟨ds,h1,h2⟩:=h.hp
 ⟨⟨ds,h1.fz hf,h2.J9 hf⟩,h.gn.fz hf,h.fr.fz hf⟩
end Go.Gv.F
