/- The law of any octets. -/
import Derived.Test.YtegglibipjjblaaGreatDoorGvZKa
import Derived.Test.YtegglibipjjblaaGreatDoorGvCLawC
import Derived.Test.YtegglibipjjblaaGreatDoorGvMLawO
set_option linter.all false
namespace Go.Gv.F
open Go.Gv
theorem law_law27_CheckAny {Bd:Zh} (h:HA Bd) (s:St) (args:ah) (aj5:Frz s) (ht:sc s) (hr:LK s [(false,.sl (.i .u8))] args): ∃n s',run Bd n 338 args s=some (.val [.b true],s'):=by
 obtain⟨_,d,_,hx,ij,rfl,hd⟩:=hr;cases ij;have hd:_=[d]:=hd;subst hd;obtain⟨a,l,rfl,Oe⟩:=ZyH hx;refine Zzk (n:=100000) ?_;rw[Ze,h.agC];unfold Q2 bV bq aA Lb aZ
 try dsimp only
 rw[aX,aq];refine Ok.cv (ZkB 99999 (by omega) s ht) λs1 aH=>?_
 have Kv:=ht.mono aH;rw[au,aq];rw[Za,bu,af];by_cases abn:(l.length:Int)>8000
 .rw[ax abn]
  simp only[au,aq];rw[ae];refine Ok.cv (ZkB 99999 (by omega) s1 Kv) λs3 cu=>?_
  rw[au,aq,Zd];exact .mk ⟨s3,rfl⟩
 rw[aF abn];simp only[au,aq];rw[af];have lQ: ∀s2,aB s s2->∀K:ah->M ah,dy a l.length K s2=K (bU l) s2:=λs2 hp K=>by
  have:=iR (show Sl _ a (bU l)from Oe.mono hp) K;rwa [Zu]at this
 rw[lQ s1 aH,<-lr,oJ];refine Ok.cv (Zou 99999 a l s1 Kv (Oe.mono aH) (by omega) (by omega)) λs2 aU=>?_
 rw[au,aq];rw[Za,ae,lQ s2 (aH.trans aU),<-lr,oJ,xq];simp only[au,aq];rw[Zd];exact .mk ⟨s2,rfl⟩
end Go.Gv.F
