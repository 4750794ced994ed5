/- Words of a line are words; a line of words is just a joined one. Plain facts. -/
import Derived.Test.YtegglibipjjblaaGreatDoorGvZPc
import Derived.Test.YtegglibipjjblaaGreatDoorGvZPd
import Derived.Test.YtegglibipjjblaaGreatDoorGvZBod
namespace Go.Gv.F
open Go.Gv
def dec4 (a b c d:Nat):Nat×Nat:=
  if a<128 then (a,1)
  else if (194≤a∧a≤223)∧(128≤b∧b≤191) then ((a-192)*64+(b-128),2)
  else if (224≤a∧a≤239)∧((if a=224 then 160 else 128)≤b∧b≤(if a=237 then 159 else 191))∧(128≤c∧c≤191) then
   ((a-224)*4096+(b-128)*64+(c-128),3)
  else if (240≤a∧a≤244)∧((if a=240 then 144 else 128)≤b∧b≤(if a=244 then 143 else 191))∧(128≤c∧c≤191)∧(128≤d∧d≤191) then
   ((a-240)*262144+(b-128)*4096+(c-128)*64+(d-128),4)
  else (65533,1)
end Go.Gv.F
namespace Go.Gv.F
open Go.Gv
def Acts (s:St):List DV→List ActV→Prop
 |ds,[]=>ds=[]
 |ds,x::r=>∃p t,ds=actC x 1 p++t∧Fz s p (ints x.list)∧Acts s t r
theorem Znv (x:ActV) (z:Nat) (p:Option (Nat×Nat)):(actC x z p).length=8:=rfl
theorem Acts.len {s:St} : ∀ {ds:List DV} {xs:List ActV},Acts s ds xs→ds.length=xs.length*8
 |ds,[],h=>by rw [show ds=[] from h];rfl
 |ds,x::r,⟨p,t,h1,_,h3⟩=>by rw [h1,List.length_append,h3.len,Znv,List.length_cons];omega
theorem Acts.kp {s s':St} (k:Kp s s'): ∀ {ds:List DV} {xs:List ActV},Acts s ds xs→Acts s' ds xs
 |_,[],h=>h
 |_,_::_,⟨p,t,h1,h2,h3⟩=>⟨p,t,h1,h2.kp k,h3.kp k⟩
theorem Acts.push {s:St} {x:ActV} {p:Option (Nat×Nat)} (hf:Fz s p (ints x.list)): ∀ {ds:List DV} {xs:List ActV},Acts s ds xs→Acts s (ds++actC x 1 p) (xs++[x])
 |ds,[],h=>by
  rw [show ds=[] from h]
  exact ⟨p,[],by simp,hf,rfl⟩
 |ds,y::r,⟨q,t,h1,h2,h3⟩=>⟨q,t++actC x 1 p,by rw [h1,List.append_assoc],h2,h3.push hf⟩
theorem Acts.get {s:St} : ∀ {ds:List DV} {xs:List ActV},Acts s ds xs→∀ {j:Nat} {x:ActV},xs[j]? =some x→∃p,(ds.drop (j*8)).take 8=actC x 1 p∧Fz s p (ints x.list)
 |_,[],_,j,x,e=>by simp at e
 |ds,y::r,⟨q,t,h1,h2,h3⟩,0,x,e=>by
  simp only [List.getElem?_cons_zero,Option.some.injEq] at e
  subst e
  exact ⟨q,by rw [h1,Nat.zero_mul,List.drop_zero,←Znv y 1 q,List.take_left],h2⟩
 |ds,y::r,⟨q,t,h1,h2,h3⟩,j+1,x,e=>by
  obtain ⟨p,g1,g2⟩:=h3.get (j:=j) (x:=x) (by simpa using e)
  refine ⟨p,?_,g2⟩
  rw [h1,show (j+1)*8=(actC y 1 q).length+j*8 by rw [Znv];omega,←List.drop_drop,List.drop_left]
  exact g1
theorem Sl.gets {β:Type} {s:St} {i o:Nat} {cs:List DV} (h:Sl s (some (i,o)) cs) {k n:Nat} (hk:k+n≤cs.length) (K:List DV→M β):M.load i (k+o) n K s=K ((cs.drop k).take n) s:=by
 obtain ⟨f,all,h1,h2,h3⟩:=h
 rw [Z7 h1 (by omega)]
 congr 1
 rw [←h3,List.drop_take,List.take_take,Nat.min_eq_left (by omega),List.drop_drop,Nat.add_comm o k]
end Go.Gv.F
namespace Go.Gv.F
open Go.Gv
end Go.Gv.F
namespace Go.Gv.F
open Go.Gv
end Go.Gv.F
namespace Go.Gv.F
open Go.Gv
theorem ZxU {β:Type} (sz:Nat) (a:Option (Nat×Nat)) (n:Nat) (ds:List DV) (lim:Nat) (K:Option (Nat×Nat)→M β) (s:St):M.app sz a n ds 0 lim K s=K a s:=rfl
end Go.Gv.F
namespace Go.Gv.F
open Go.Gv
end Go.Gv.F
namespace Go.Gv.F
open Go.Gv
end Go.Gv.F
