/- The law of images that are cut off. -/
import Derived.Test.YtegglibipjjblaaGreatDoorGvZCa
set_option linter.all false
namespace Go.Gv.F
open Go.Gv
variable {Y:Type}
theorem ZA5:FR Cy:=⟨⟨EQ,EQ,EQ⟩,EQ,EQ,EQ⟩
theorem ZA1 (st:St):BN st Cy none none none:=⟨⟨[],Fz.nil _,rfl⟩,Fz.nil _,Fz.nil _⟩
variable {Bd:Zg} [h:HA Bd]
theorem Zx4 (n:Nat) (st:St):run Bd (n+1) 323 [.slice 0 none 0] st=run Bd (n+1) 323 [.slice 1 none 0] st:=by
 rw[Ze,Ze,h.acF];rfl
theorem Zkf (n:Nat) (hn:70000<=n) (st:St) (ht:xe st):Ok (λo=>∃s',o=(.val [.bool true],s')/\aB st s') (run Bd n 322 [] st):=by
 obtain⟨n,rfl⟩: ∃m,n=m+2:=⟨n-2,AC⟩;have⟨B,s,x,v,e,hB,hW,hF,YN,OV⟩:=Zu3;rw[Ze,h.ahR];unfold SR MB II az bj Lb
 try dsimp only
 rw[ao];have cq:([.i 16,.i 2,.i 1,.slice 0 none 0,.slice 0 none 0,.slice 0 none 0]:ah)=fa Cy 0 none 0 none 0 none:=rfl;rw[cq];refine Ok.call (Zkp (n+1) Cy 0 0 0 none none none 1 0 st (.inr rfl) (.inr rfl) (.inr rfl) (ZA1 st) ZA5) ?_;rintro _ ⟨s2,bd,hq⟩;rcases hq with⟨B',s',ib,q,_,hb,rfl,sv⟩|⟨cC,_⟩
 rotate_left
 .rw[cC ZAb]at hB;cases hB
 rw[hB]at hb;cases hb;refine⟨_,s2,rfl,?_⟩;rw[aZ,lB];unfold dI;simp only[au,aZ,ar,ao];have hby:dD s2 (some (ib,0)) B:=⟨false,bT B,sv.fu,AC,by rw[dF,rQ]⟩;refine Ok.call (RQ (n+1) (some (ib,0)) B s2 (ht.mono bd) hby AC (λx' v' e' hw=>?_)) ?_
 .rw[hW]at hw
  cases hw;omega
 rintro o ⟨s3,dh,ho⟩;rw[hW]at ho;simp only at ho;subst ho;refine⟨_,s3,rfl,?_⟩;rw[lB,Zu6,hF];show Ok _ (aC .i64 [.i 0,.i 0,.i 0,.i 0,.i 3] _ s3);simp only[au,ao];have Px:dD s3 none []:=rfl;have kU:=RQ (n+1) none [] s3 (ht.mono (bd.trans dh)) Px EQ (λx' v' e' hw=>by rw[Zrb]at hw;cases hw);rw[Zrb]at kU;change Ok _ (run Bd (n+1) 323 [DV.slice 1 none 0] s3)at kU;rw[<-Zx4]at kU;refine Ok.call kU ?_;rintro o ⟨s4,hJ,ho⟩;simp only at ho;subst ho;refine⟨_,s4,rfl,?_⟩;rw[lB];unfold N4;simp only[au,ao,Za,ae];rw[show((0:Int)==0)=true from rfl,ar,ao,ae,show((3:Int)==3)=true from rfl,show((30:Int)==30)=true from rfl];simp only[BA,ae,Zd];exact .mk ⟨s4,rfl,(bd.trans dh).trans hJ⟩
