/- The law of states that were laid into an image. -/
import Derived.Test.YtegglibipjjblaaGreatDoorGvZMg
import Derived.Test.YtegglibipjjblaaGreatDoorGvZMe
namespace Go.Gv.F
open Go.Gv
theorem iz.wN {s:St} (hf:FH s): ∀ {ds:List DV} {xs:List cN},iz s ds xs->rI s ds xs
 |_,[],h=>h
 |_,_::_,⟨z,p,t,hz,h1,h2,h3⟩=>⟨z,p,t,hz,h1,h2.fz hf,h3.wN hf⟩
theorem oq.aaw {s:St} (hf:FH s) {x:cT} {p1 p2 p3:Option (Nat×Nat)} (h:oq s x p1 p2 p3):v8 s x p1 p2 p3:=
 let ⟨ds,h1,h2⟩:=h.hp
 ⟨⟨ds,h1.fz hf,h2.wN hf⟩,h.gn.fz hf,h.fr.fz hf⟩
theorem L8.keys {x:cT} (rg:L8 x):Qp x:=by
 have h: ∀e∈Zo x,j5 e.slot/\j5 e.gen/\j5 e.key/\j5 e.value:=fun e he=>by
  unfold Zo at he;obtain⟨l,hl,he⟩:=List.mem_flatten.1 he;obtain⟨g,hg,rfl⟩:=dP.1 hl;exact rg.aN g hg e he
 exact⟨fun e he=>(h e he).2.2.1,fun e he=>(h e he).2.2.2⟩
end Go.Gv.F
