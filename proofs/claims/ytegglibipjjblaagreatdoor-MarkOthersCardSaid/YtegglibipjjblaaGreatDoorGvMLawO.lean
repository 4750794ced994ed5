/- The law of what a walk tells: entries in order, handles of their own. -/
import Derived.Test.YtegglibipjjblaaGreatDoorGvZMf
import Derived.Test.YtegglibipjjblaaGreatDoorGvMOk3
set_option linter.all false
namespace Go.Gv.F
open Go.Gv
variable {β:Type}
abbrev YS:Ty:= .pr (.i .i64) (.pr (.pr (.pr (.i .i64) (.pr (.i .i64) (.pr (.i .i64) .un))) (.pr (.i .i64) (.pr (.i .i64) (.pr (.i .i64) .un)))) (.pr (.i .i64) (.pr (.sl (.i .i64)) .un)))
theorem ZxV {s:St} {cs:ah} (h:Rd s YS cs): ∃(x:dY) (z:Nat) (p:ai),cs=[.int .i64 x.seq,.int .i64 x.blocks,.int .i64 x.cJ,.int .i64 x.g,.int .i64 x.bY,.int .i64 x.used,.int .i64 x.free,.int .i64 x.dir,.slice z p x.aL.length]/\(z=1\/p=none)/\Sl s p (ints x.aL):=by
 obtain⟨_,_,rfl,⟨sq,rfl,_⟩,⟨_,_,rfl,⟨_,_,rfl,⟨_,_,rfl,⟨b,rfl,_⟩,⟨_,_,rfl,⟨sl,rfl,_⟩,⟨_,_,rfl,⟨g,rfl,_⟩,hu⟩⟩⟩,⟨_,_,rfl,⟨tp,rfl,_⟩,⟨_,_,rfl,⟨hi,rfl,_⟩,⟨_,_,rfl,⟨fr,rfl,_⟩,CJ⟩⟩⟩⟩,⟨_,_,rfl,⟨dr,rfl,_⟩,⟨l,_,rfl,hl,hu3⟩⟩⟩⟩:=h;cases hu;cases CJ;cases hu3;obtain⟨d,rfl⟩: ∃d,l=[d]:=Jl.1 hl.len;obtain⟨p,cs,⟨z,hz,rfl⟩,g1,_⟩:=SM hl;exact⟨⟨sq,b,sl,g,tp,hi,fr,dr,cs⟩,z,p,rfl,hz,g1⟩
end Go.Gv.F
