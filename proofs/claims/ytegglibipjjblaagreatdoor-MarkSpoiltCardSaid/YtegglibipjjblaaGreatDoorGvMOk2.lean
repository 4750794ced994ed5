/- What a walk that is whole has shown: the state may be. No program in sight. -/
import Derived.Test.YtegglibipjjblaaGreatDoorGvMOk
namespace Go.Gv.F
open Go.Gv
theorem ZuV (x y:E4):fb (F3 x) (F3 y)=fp x y:=by
 rw[iQ,Cm];unfold fb F3;simp only;split
 .rw[bq]
  constructor
  .intro h;exact .inl h
  .rintro(h|⟨h,_⟩)
   .exact h
   .contradiction
 .rename_i h0
  have h0:x.2.2.1=y.2.2.1:=by simpa using h0
  split
  .rename_i h1
   rw[bq];constructor
   .intro h;exact .inr ⟨h0,.inl h⟩
   .rintro(h|⟨_,h|⟨h,_⟩⟩)
    .omega
    .exact h
    .contradiction
  .rename_i h1
   have h1:x.1=y.1:=by simpa using h1
   rw[bq];constructor
   .intro h;exact .inr ⟨h0,.inr ⟨h1,h⟩⟩
   .rintro(h|⟨_,h|⟨_,h⟩⟩)
    .omega
    .omega
    .exact h
end Go.Gv.F
