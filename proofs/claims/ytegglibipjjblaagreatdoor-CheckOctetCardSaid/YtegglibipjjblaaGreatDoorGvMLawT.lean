/- The law of states that were laid into an image. -/
import Derived.Test.YtegglibipjjblaaGreatDoorGvZMg
set_option linter.all false
namespace Go.Gv.F
open Go.Gv
theorem kQ.CE {s:St} (hf:Mr s): ∀ {ds:ah} {xs:List dw},kQ s ds xs->xb s ds xs
 |_,[],h=>h
 |_,_::_,⟨z,p,t,hz,h1,h2,h3⟩=>⟨z,p,t,hz,h1,h2.fz hf,h3.CE hf⟩
theorem qh.ak1 {s:St} (hf:Mr s) {x:dW} {p1 p2 p3:ai} (h:qh s x p1 p2 p3):BN s x p1 p2 p3:=
 let ⟨ds,h1,h2⟩:=h.hp
 ⟨⟨ds,h1.fz hf,h2.CE hf⟩,h.gn.fz hf,h.fr.fz hf⟩
theorem QR.keys {x:dW} (rg:QR x):Xl x:=by
 have h: ∀e∈Zp x,nO e.slot/\nO e.gen/\nO e.key/\nO e.value:=λe he=>by
  unfold Zp at he;have⟨l,hl,he⟩:=List.mem_flatten.1 he;obtain⟨g,hg,rfl⟩:=jK.1 hl;exact rg.bz g hg e he
 exact⟨λe he=>(h e he).2.2.1,λe he=>(h e he).2.2.2⟩
