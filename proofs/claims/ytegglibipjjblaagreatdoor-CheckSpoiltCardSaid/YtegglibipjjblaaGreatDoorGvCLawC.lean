/- The law of images that are cut off. -/
import Derived.Test.YtegglibipjjblaaGreatDoorGvZCa
set_option linter.all false
namespace Go.Gv.F
open Go.Gv
variable {β:Type}
theorem ZAQ:BQ CK:=⟨⟨EQ,EQ,EQ⟩,EQ,EQ,EQ⟩
theorem ZAw (st:St):BP st CK none none none:=⟨⟨[],Fz.nil _,rfl⟩,Fz.nil _,Fz.nil _⟩
variable {Bd:Zh} [h:HA Bd]
theorem Zxe (n:Nat) (st:St):run Bd (n+1) 323 [.slice 0 none 0] st=run Bd (n+1) 323 [.slice 1 none 0] st:=by
 rw[Ze,Ze,h.abT];rfl
theorem Zk9 (n:Nat) (hn:70000<=n) (st:St) (ht:sO st):Ok (λo=>∃s',o=(.val [.bool true],s')/\aA st s') (run Bd n 322 [] st):=by
 obtain⟨n,rfl⟩: ∃m,n=m+2:=⟨n-2,AC⟩;have⟨B,s,x,v,e,hB,hW,hF,Yj,J7⟩:=Zuo;rw[Ze,h.ahb];unfold Ss Mx IY az ba Lb
 try dsimp only
 rw[aq];have cd:([.i 16,.i 2,.i 1,.slice 0 none 0,.slice 0 none 0,.slice 0 none 0]:ah)=dw CK 0 none 0 none 0 none:=rfl;rw[cd];refine Ok.call (Zk5 (n+1) CK 0 0 0 none none none 1 0 st (.inr rfl) (.inr rfl) (.inr rfl) (ZAw st) ZAQ) ?_;rintro _ ⟨s2,aU,hq⟩;rcases hq with⟨B',s',ib,q,_,hb,rfl,qE⟩|⟨cD,_⟩
 rotate_left
 .rw[cD ZzW]at hB;cases hB
 rw[hB]at hb;cases hb;refine⟨_,s2,rfl,?_⟩;rw[aV,ZI];unfold dq;simp only[av,aV,au,aq];have hby:c9 s2 (some (ib,0)) B:=⟨false,bI B,qE.dR,AC,by rw[dE,oY]⟩;refine Ok.call (RR (n+1) (some (ib,0)) B s2 (ht.mono aU) hby AC (λx' v' e' hw=>?_)) ?_
 .rw[hW]at hw
  cases hw;omega
 rintro o ⟨s3,cz,ho⟩;rw[hW]at ho;simp only at ho;subst ho;refine⟨_,s3,rfl,?_⟩;rw[ZI,ZuG,hF];show Ok _ (aC .i64 [.i 0,.i 0,.i 0,.i 0,.i 3] _ s3);simp only[av,aq];have Pj:c9 s3 none []:=rfl;have j5:=RR (n+1) none [] s3 (ht.mono (aU.trans cz)) Pj EQ (λx' v' e' hw=>by rw[ZrQ]at hw;cases hw);rw[ZrQ]at j5;change Ok _ (run Bd (n+1) 323 [DV.slice 1 none 0] s3)at j5;rw[<-Zxe]at j5;refine Ok.call j5 ?_;rintro o ⟨s4,fe,ho⟩;simp only at ho;subst ho;refine⟨_,s4,rfl,?_⟩;rw[ZI];unfold Wc;simp only[av,aq,Za,ae];rw[show((0:Int)==0)=true from rfl,au,aq,ae,show((3:Int)==3)=true from rfl,show((30:Int)==30)=true from rfl];simp only[wC,ae,Zd];exact .mk ⟨s4,rfl,(aU.trans cz).trans fe⟩
end Go.Gv.F
