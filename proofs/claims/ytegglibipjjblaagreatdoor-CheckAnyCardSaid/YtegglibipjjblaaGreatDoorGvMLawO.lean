/- The law of what a walk tells: entries in order, handles of their own. -/
import Derived.Test.YtegglibipjjblaaGreatDoorGvZMf
import Derived.Test.YtegglibipjjblaaGreatDoorGvMOk3
set_option linter.all false
namespace Go.Gv.F
open Go.Gv
variable {β:Type}
theorem ZyH {s:St} {d:DV} (h:Rd s (.sl (.i .u8)) [d]): ∃a l,d= .s 1 a (List.length l)/\dc s a l:=by
 rcases h with h|⟨i,n,cs,h1,h2,h3,_,h5⟩
 .exact⟨none,[],(List.cons.inj h).1,rfl⟩
 .have h3:cs.length=n:=by rw[h3];exact cR n
  have key: ∀j,j<n->∃l:UInt8,cs[j]? =some (.u l.toNat):=by
   intro j hj;have⟨l,hl,j3,ij⟩:=h5 j hj;have e1:IntKind.min .u8=0:=by decide
   have e2:IntKind.max .u8=255:=by decide
   rw[e1]at j3;rw[e2]at ij;have:(cs.drop (j*Ty.size (.i .u8))).take (Ty.size (.i .u8))=[cs[j]'(by omega)]:=by
    show(cs.drop (j*1)).take 1=_;rw[cR,iV (by omega)];rfl
   rw[this]at hl;refine⟨UInt8.ofNat l.toNat,?_⟩;rw[cq (by omega),(List.cons.inj hl).1];congr 2;show l=((l.toNat%256:Nat):Int);omega
  have: ∃ws:aj,cs=bU ws:=by
   refine⟨cs.map λd=>match d with| .int _ l=>UInt8.ofNat l.toNat|_=>0,?_⟩;unfold bU;rw[zw];refine tk λj=>?_
   rw[rQ];rcases jI j n with hj|hj
   .have⟨l,hl⟩:=key j hj
    rw[hl];simp
   grind
  obtain⟨ws,rfl⟩:=this;refine⟨some (i,0),ws,?_,⟨true,_,h2,by simp,by rw[dK];exact rU⟩⟩;rw[(List.cons.inj h1).1,<-h3,Zu];rfl
end Go.Gv.F
