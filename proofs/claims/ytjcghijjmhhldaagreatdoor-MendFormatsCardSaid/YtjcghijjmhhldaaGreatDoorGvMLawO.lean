/- The law of what a walk tells: entries in order, handles of their own. -/
import Derived.Test.YtjcghijjmhhldaaGreatDoorGvZMf
import Derived.Test.YtjcghijjmhhldaaGreatDoorGvMOk3
set_option linter.all false
namespace Go.Gv.F
open Go.Gv
variable {β:Type}
theorem ZsP {s:St} {d:DV} (h:Rd s (.sl (.i .u8)) [d]): ∃a l,d= .slice 1 a (List.length l)/\cC s a l:=by
 rcases h with h|⟨i,n,cs,h1,h2,h3,_,h5⟩
 .exact⟨none,[],(List.cons.inj h).1,rfl⟩
 .have h3:cs.length=n:=by rw[h3];exact cL n
  have key: ∀j,j<n->∃l:UInt8,cs[j]? =some (.u l.toNat):=by
   intro j hj;have⟨l,hl,gu,j1⟩:=h5 j hj;have e1:IntKind.min .u8=0:=EQ
   have e2:IntKind.max .u8=255:=EQ
   rw[e1]at gu;rw[e2]at j1;have:(cs.drop (j*Ty.size (.i .u8))).take (Ty.size (.i .u8))=[cs[j]' AC]:=by
    show(cs.drop (j*1)).take 1=_;rw[cL,il AC];rfl
   rw[this]at hl;refine⟨UInt8.ofNat l.toNat,?_⟩;rw[dt AC,(List.cons.inj hl).1];congr 2;show l=((l.toNat%256:Nat):Int);omega
  have: ∃ws:aj,cs=aN ws:=by
   refine⟨cs.map λd=>match d with| .int _ l=>UInt8.ofNat l.toNat|_=>0,?_⟩;unfold aN;rw[List.map_map];refine xo λj=>?_
   rw[jJ];rcases jd j n with hj|hj
   .have⟨l,hl⟩:=key j hj
    rw[hl];simp
   grind
  obtain⟨ws,rfl⟩:=this;refine⟨some (i,0),ws,?_,⟨true,_,h2,Do,by rw[eG];exact lO⟩⟩;rw[(List.cons.inj h1).1,<-h3,Zp];rfl
end Go.Gv.F
