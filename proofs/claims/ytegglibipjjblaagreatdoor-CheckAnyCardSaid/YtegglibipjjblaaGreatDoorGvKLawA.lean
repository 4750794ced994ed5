/- The law of any octets. -/
import Derived.Test.YtegglibipjjblaaGreatDoorGvZKa
import Derived.Test.YtegglibipjjblaaGreatDoorGvCLawC
import Derived.Test.YtegglibipjjblaaGreatDoorGvMLawO
set_option linter.all false
namespace Go.Gv.F
open Go.Gv
def law_law27_CheckAny {Bd:Zh} (h:HA Bd) (s:St) (args:ah) (ajS:Frz s) (ht:sa s) (hr:LC s [(false,.sl (.i .u8))] args): ∃n s',run Bd n 338 args s=some (.val [.bool true],s'):=by
 obtain⟨_,d,_,hx,ik,rfl,hd⟩:=hr;cases ik;have hd:_=[d]:=hd;subst hd;obtain⟨a,l,rfl,N4⟩:=ZxX hx;refine Zy9 (n:=100000) ?_;rw[Ze,h.agp];unfold QL bV bq aA Lb aZ;simp only[aX,aq];refine Ok.cv (ZkM 99999 (by omega) s ht) λs1 aH=>?_
 have Km:=ht.mono aH;simp only[au,aq];rw[Za,br,af];by_cases abb:((l.length:Nat):Int)>8000
 .rw[ax abb]
  simp only[au,aq];rw[ae];refine Ok.cv (ZkM 99999 (by omega) s1 Km) λs3 cu=>?_
  simp only[au,aq,Zd];exact .mk ⟨s3,rfl⟩
 rw[aF abb];simp only[au,aq];rw[af];have lO: ∀s2,aB s s2->∀K:ah->M ah,dy a l.length K s2=K (bU l) s2:=λs2 hp K=>by
  have:=iR (show Sl _ a (bU l)from N4.mono hp) K;rwa [Zu]at this
 rw[lO s1 aH,<-ll,oJ];refine Ok.cv (Zos 99999 a l s1 Km (N4.mono aH) (by omega) (by omega)) λs2 aU=>?_
 simp only[au,aq];rw[Za,ae,lO s2 (aH.trans aU),<-ll,oJ,xq];simp only[au,aq];rw[Zd];exact .mk ⟨s2,rfl⟩
end Go.Gv.F
