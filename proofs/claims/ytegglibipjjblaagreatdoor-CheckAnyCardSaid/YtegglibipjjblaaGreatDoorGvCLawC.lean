/- The law of images that are cut off. -/
import Derived.Test.YtegglibipjjblaaGreatDoorGvZCa
set_option linter.all false
namespace Go.Gv.F
open Go.Gv
variable {β:Type}
theorem ZAn:Dn Cb:=⟨⟨by decide,by decide,by decide⟩,by decide,by decide,by decide⟩
theorem Zz6 (st:St):Dm st Cb none none none:=⟨⟨[],Fz.nil _,rfl⟩,Fz.nil _,Fz.nil _⟩
variable {Bd:Zh} [h:HA Bd]
theorem Zxk (n:Nat) (st:St):run Bd (n+1) 323 [.s 0 none 0] st=run Bd (n+1) 323 [.s 1 none 0] st:=by
 rw[Ze,Ze,h.abc];rfl
theorem ZkB (n:Nat) (hn:70000<=n) (st:St) (ht:sc st):Ok (λo=>∃s',o=(.val [.b true],s')/\aB st s') (run Bd n 322 [] st):=by
 obtain⟨n,rfl⟩: ∃m,n=m+2:=⟨n-2,by omega⟩;have⟨B,s,x,v,e,hB,hW,hF,XB,hBl⟩:=Zt5;rw[Ze,h.agn];unfold RJ Ziw Iq aA aZ Lb
 try dsimp only
 rw[aq];have cg:([.i 16,.i 2,.i 1,.s 0 none 0,.s 0 none 0,.s 0 none 0]:ah)=dE Cb 0 none 0 none 0 none:=rfl;rw[cg];refine Ok.call (Zp4 (n+1) Cb 0 0 0 none none none 1 0 st (.inr rfl) (.inr rfl) (.inr rfl) (Zz6 st) ZAn (by omega) (by omega)) ?_;rintro _ ⟨s2,aU,hq⟩;rcases hq with⟨B',s',ib,q,_,hb,rfl,yq⟩|⟨cA,_⟩
 rotate_left
 .rw[cA ZyX]at hB;cases hB
 rw[hB]at hb;cases hb;refine⟨_,s2,rfl,?_⟩;rw[aX];rw[ZN];unfold dj;simp only[av,aX,au,aq];have Oe:dc s2 (some (ib,0)) B:=⟨false,bU B,yq.eY,by omega,by rw[dK,rU]⟩;refine Ok.call (Rf (n+1) (some (ib,0)) B s2 (ht.mono aU) Oe (by omega) (λx' v' e' hw=>?_)) ?_
 .rw[hW]at hw
  cases hw;omega
 rintro o ⟨s3,cu,ho⟩;rw[hW]at ho;simp only at ho;subst ho;refine⟨_,s3,rfl,?_⟩;rw[ZN,Zuj,hF];show Ok _ (aD .i64 [.i 0,.i 0,.i 0,.i 0,.i 3] _ s3);simp only[av,aq];have OD:dc s3 none []:=rfl;have jT:=Rf (n+1) none [] s3 (ht.mono (aU.trans cu)) OD (by decide) (λx' v' e' hw=>by rw[ZqF]at hw;cases hw);rw[ZqF]at jT;change Ok _ (run Bd (n+1) 323 [DV.s 1 none 0] s3)at jT;rw[<-Zxk]at jT;refine Ok.call jT ?_;rintro o ⟨s4,fy,ho⟩;simp only at ho;subst ho;refine⟨_,s4,rfl,?_⟩;rw[ZN];unfold VS;simp only[av,aq,Za,ae];rw[show((0:Int)==0)=true from rfl];rw[au,aq,ae];rw[show((3:Int)==3)=true from rfl,show((30:Int)==30)=true from rfl];simp only[vQ,ae,Zd];exact .mk ⟨s4,rfl,(aU.trans cu).trans fy⟩
end Go.Gv.F
