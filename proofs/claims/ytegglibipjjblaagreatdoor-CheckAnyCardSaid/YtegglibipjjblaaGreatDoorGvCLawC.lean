/- The law of images that are cut off. -/
import Derived.Test.YtegglibipjjblaaGreatDoorGvZCa
set_option linter.all false
namespace Go.Gv.F
open Go.Gv
variable {β:Type}
def ZAa:Dj B5:=⟨⟨by decide,by decide,by decide⟩,by decide,by decide,by decide⟩
def ZAj (st:St):Di st B5 none none none:=⟨⟨[],Fz.nil _,rfl⟩,Fz.nil _,Fz.nil _⟩
variable {Bd:Zh} [h:HA Bd]
def ZwY (n:Nat) (st:St):run Bd (n+1) 323 [.slice 0 none 0] st=run Bd (n+1) 323 [.slice 1 none 0] st:=by
 rw[Ze,Ze,h.aa0];rfl
def ZkM (n:Nat) (hn:70000<=n) (st:St) (ht:sa st):Ok (λo=>∃s',o=(.val [.bool true],s')/\aB st s') (run Bd n 322 [] st):=by
 obtain⟨n,rfl⟩: ∃m,n=m+2:=⟨n-2,by omega⟩;obtain⟨B,s,x,v,e,hB,hW,hF,Xr,hBl⟩:=Zt4;rw[Ze,h.af9];unfold RP Zi8 H2 aA aZ Lb;simp only[aq];have cg:([.int .i64 16,.int .i64 2,.int .i64 1,.slice 0 none 0,.slice 0 none 0,.slice 0 none 0]:ah)=dE B5 0 none 0 none 0 none:=rfl;rw[cg];refine Ok.call (Zqi (n+1) B5 0 0 0 none none none 1 0 st (.inr rfl) (.inr rfl) (.inr rfl) (ZAj st) ZAa (by omega) (by omega)) ?_;rintro _ ⟨s2,aU,hq⟩;rcases hq with⟨B',s',ib,q,_,hb,rfl,yp⟩|⟨cA,_⟩
 rotate_left
 .rw[cA ZzS]at hB;cases hB
 rw[hB]at hb;cases hb;refine⟨_,s2,rfl,?_⟩;simp only[aX];rw[ZN];unfold dj;simp only[av,aX,au,aq];have N4:dc s2 (some (ib,0)) B:=⟨false,bU B,yp.eY,by omega,by rw[dK,rR]⟩;refine Ok.call (Q2 (n+1) (some (ib,0)) B s2 (ht.mono aU) N4 (by omega) (λx' v' e' hw=>?_)) ?_
 .rw[hW]at hw
  cases hw;omega
 rintro o ⟨s3,cu,ho⟩;rw[hW]at ho;simp only at ho;subst ho;refine⟨_,s3,rfl,?_⟩;rw[ZN,ZtZ,hF];show Ok _ (aD .i64 [.int .i64 0,.int .i64 0,.int .i64 0,.int .i64 0,.int .i64 3] _ s3);simp only[av,aq];have Ot:dc s3 none []:=rfl;have jS:=Q2 (n+1) none [] s3 (ht.mono (aU.trans cu)) Ot (by decide) (λx' v' e' hw=>by rw[ZqT]at hw;cases hw);rw[ZqT]at jS;change Ok _ (run Bd (n+1) 323 [DV.slice 1 none 0] s3)at jS;rw[<-ZwY]at jS;refine Ok.call jS ?_;rintro o ⟨s4,fw,ho⟩;simp only at ho;subst ho;refine⟨_,s4,rfl,?_⟩;rw[ZN];unfold Vm;simp only[av,aq,Za,ae];rw[show((0:Int)==0)=true from rfl];simp only[au,aq,ae];rw[show((3:Int)==3)=true from rfl,show((30:Int)==30)=true from rfl];simp only[vO,ae,Zd];exact .mk ⟨s4,rfl,(aU.trans cu).trans fw⟩
end Go.Gv.F
