/- What is told of an image is the document's. -/
import Derived.Test.YtegglibipjjblaaGreatDoorGvBMk
import Derived.Test.YtegglibipjjblaaGreatDoorGvZMj
import Derived.Test.YtegglibipjjblaaGreatDoorGvMLawT
namespace Go.Gv.F
set_option maxHeartbeats 4000000
open Go.Gv
theorem aar (s:St):ny s p8 none none none:=⟨⟨[],rfl,rfl⟩,rfl,rfl⟩
variable {Bd:Zh} [h:HA Bd]
theorem ZoM (n:Nat) (a:ai) (img:aj) (x:eC) (pc:ai) (s:St) (ht:wM s) (ha:dz s a img) (hc:Sl s pc (ints x.aO)) (hl:img.length<1000000) (cL:x.aO.length<1000) (hn:90000<=n):
  Ok (λo=>∃s',o=(.val [.bool true],s')/\aD s s') (run Bd n 186 [.slice 1 a img.length,.agg (dS x pc)] s):=by
 obtain⟨n,rfl⟩: ∃k,n=k+1:=⟨n-1,by omega⟩;rw[Ze,h.abQ];unfold Pt ZZ D5 ZK Hx bd az iy ck mK zY wN Lb Lp uf;simp only[bc];have V2:=PA n a img x pc s ha hc hl cL;have Nj:=λs1 (hp:aD s s1)=>Zov n img x pc s1 hl (hc.mono hp) cL (by omega)
 have Bo:=λs1 (hp:aD s s1)=>O9 n x pc s1 (hc.mono hp) cL
 have pU: ∀s1,aD s s1->∀K:ah->M ah,da a img.length K s1=K (bK img) s1:=λs1 hp K=>by
  have:=iD (show Sl _ a (bK img)from ha.mono hp) K;rwa [Zq]at this
 have tx:=λs1 (hp:aD s s1) rm pr (hr:ZtE s1 rm pr)=>ZiP n a img x pc rm pr s1 (ht.mono hp) (ha.mono hp) (hc.mono hp) hr hl cL
 have hrc:=λs1 (hp:aD s s1) l p h1 h2 h3 h4 h5 h6=>Zne n img x pc l p s1 (hc.mono hp) h1 h2 h3 h4 h5 cL hl h6
 have IN:=λs1=>ZkS n p8 p8 2 1 1 none none none 0 0 0 none none none s1 (.inl rfl) (.inl rfl) (.inl rfl) (.inr rfl) (.inr rfl) (.inr rfl) (aar s1) (aar s1) ⟨⟨cn _,(λg hg=>nomatch hg),(λg hg=>nomatch hg)⟩,cn _,cn _,cn _⟩
 unfold dS at V2 Nj Bo tx hrc⊢;rw[dt];simp only[av,bc,aq];refine Ok.call V2 ?_;intro o ho;cases hw:oW (mH img x)with
 |none=>
  rw[hw]at ho;obtain⟨s1,rfl,aG⟩:=ho;refine⟨_,s1,rfl,?_⟩;have mY:Z6 x=false:=by
   unfold oW at hw;cases mY:Z6 x with
   |false=>rfl
   |true=>
    rw[show Z6 (mH img x).sup=Z6 x from rfl,mY,ae]at hw
    revert hw
    cases decide ((mH img x).sup.blocks<=(((mH img x).img.length/64:Nat):Int))<;>exact λhw=>nomatch hw
  rw[dt];unfold dK;simp only[av,Zg 2 0 none _ (.inr rfl),Zg 1 0 none _ (.inr rfl),gj,aq];rw[pU s1 aG,<-lq,oh];refine Ok.call (Nj s1 aG) ?_;rintro o ⟨s2,aZ,ho⟩;rw[show uo img x=none by unfold uo;rw[mY];rfl]at ho;simp only at ho;subst ho;refine⟨_,s2,rfl,?_⟩;rw[dt];unfold zz;simp only[av,Zg 2 0 none _ (.inr rfl),Zg 1 0 none _ (.inr rfl),au,aq];refine Ok.call (Bo s2 (aG.trans aZ)) ?_;rintro _ ⟨s3,rfl,cq⟩;refine⟨_,s3,rfl,?_⟩;simp only[au,aq];rw[mY,bp,ae,Za,show((2:Int)==2)=true from rfl,ae];simp only[au,aq];rw[Za,show(Option.isNone (none:ai))=true from rfl,ae];refine Ok.call (IN s3) ?_;rintro _ ⟨b,rfl,hb⟩;refine⟨_,s3,rfl,?_⟩;simp only[au,aq];rw[Zd,hb.2 rfl];exact .mk ⟨s3,rfl,(aG.trans aZ).trans cq⟩
 |some q=>
 obtain⟨mY,qT⟩:Z6 x=true/\(bif decide (x.blocks<=((img.length/64:Nat):Int))then some (ve (mH img x))else some none)=some q:=by
  unfold oW at hw;rw[show(mH img x).sup=x from rfl,show(mH img x).img=img from rfl]at hw;cases mY:Z6 x with
  |false=>rw[mY]at hw;cases hw
  |true=>rw[mY]at hw;exact⟨rfl,hw⟩
 have hx:=(zZ x).1 mY;obtain⟨g1,g2,_⟩:=Z3 hx.g;cases q with
 |none=>
  rw[hw]at ho;obtain⟨s1,rfl,aG⟩:=ho;refine⟨_,s1,rfl,?_⟩;have hwn:uo img x=none:=by
   by_cases hb:x.blocks<=((img.length/64:Nat):Int)
   .rw[aw hb,ae]at qT
    have:=Zr3 (K:=mH img x) (img:=img) (x:=x) rfl rfl rfl hx hb;rwa [DQ qT]at this
   .unfold uo
    rw[mY,aw (show x.blocks>((img.length/64:Nat):Int) by omega)];rfl
  rw[dt];unfold dK;simp only[av,Zg 2 0 none _ (.inr rfl),Zg 1 0 none _ (.inr rfl),gj,aq];rw[pU s1 aG,<-lq,oh];refine Ok.call (Nj s1 aG) ?_;rintro o ⟨s2,aZ,ho⟩;rw[hwn]at ho;simp only at ho;subst ho;refine⟨_,s2,rfl,?_⟩;rw[dt];unfold zz;simp only[av,Zg 2 0 none _ (.inr rfl),Zg 1 0 none _ (.inr rfl),au,aq];refine Ok.call (Bo s2 (aG.trans aZ)) ?_;rintro _ ⟨s3,rfl,cq⟩;refine⟨_,s3,rfl,?_⟩;simp only[au,aq];rw[mY,bm,af,bp,ae,Za,show((31:Int)==31)=true from rfl,ae];simp only[au,aq];rw[Za,show(Option.isNone (none:ai))=true from rfl,ae];refine Ok.call (IN s3) ?_;rintro _ ⟨b,rfl,hb⟩;refine⟨_,s3,rfl,?_⟩;simp only[au,aq];rw[Zd,hb.2 rfl];exact .mk ⟨s3,rfl,(aG.trans aZ).trans cq⟩
 |some v=>
 rw[hw]at ho;obtain⟨s1,z2,p2,z3,p3,z4,p4,i,j,rfl,aG,e2,e3,e4,ca,db,hj,pQ⟩:=ho;refine⟨_,s1,rfl,?_⟩;have hb:x.blocks<=((img.length/64:Nat):Int):=by
  by_cases hb:x.blocks<=((img.length/64:Nat):Int)
  .exact hb
  .rw[aB hb]at qT;cases qT
 rw[aw hb,ae]at qT;have hwe:=Zr3 (K:=mH img x) (img:=img) (x:=x) rfl rfl rfl hx hb;rw[DQ qT]at hwe;obtain⟨hwI,all,cS⟩:=hwe;have XQ: ∀b,dM v.W b=true->b<x.blocks.toNat:=λb hb=>by
  rw[cS,Er all (by unfold kM;rw[(pF _ _ _).1,vh]),vw]at hb;rcases hb with h1|h1
  .exact h1.2
  .exact h1.2
 obtain⟨sz,Nb⟩:=Zwa hx hwI;rw[dt];unfold dK;simp only[av,Zg 2 z2 p2 _ e2,Zg 1 z3 p3 _ e3,Zg 1 z4 p4 _ e4,gj,aq];rw[pU s1 aG,<-lq,oh];refine Ok.call (Nj s1 aG) ?_;rintro o ⟨s2,aZ,ho⟩;rw[hwI]at ho;obtain⟨zI,q1,q2,q3,q,rfl,IY,afH,hsq⟩:=ho;refine⟨_,s2,rfl,?_⟩;have tE:=aG.trans aZ;rw[dt];unfold dK;simp only[av,Zg 2 zI q1 _ IY,bc,au,aq];refine Ok.call (Bo s2 tE) ?_;rintro _ ⟨s3,rfl,cq⟩;refine⟨_,s3,rfl,?_⟩;have FG:=tE.trans cq;simp only[au,aq];rw[mY,bm,af,af,Za,show((0:Int)==0)=true from rfl,ae];simp only[au,aq];rw[Za,show(!Option.isNone (some (i,0)))=true from rfl,ae];have VS:=db.pre (aZ.trans cq);rw[show n=(n-1)+1 by omega,wY (ZrO (n-1) s3 VS),show n-1+1=n by omega];simp only[av,au,aq];rw[Za,show(((x.blocks.toNat:Nat):Int)==x.blocks)=true by rw[kU];omega,ae];refine Ok.xj (Zk4 (aaw) n s3 (ht.mono FG) VS) ?_;rintro _ ⟨pl,s4,rfl,fC,afD,_⟩;refine⟨_,s4,rfl,?_⟩;simp only[bc,aq];refine Ok.call (O4 n (dJ v.W) (dJ v.W) pl q s4 afD (hsq.mono (cq.trans fC)) (by omega) (by omega)) ?_;rintro _ rfl;refine⟨_,s4,rfl,?_⟩;rw[aw (show dJ v.W=dJ v.W from rfl)];simp only[au,aq];rw[Za,ae];refine Ok.call (ZkS n (wy x v) (wy x v) 2 1 1 p2 p3 p4 2 1 1 q1 q2 q3 s4 (.inl rfl) (.inl rfl) (.inl rfl) (.inl rfl) (.inl rfl) (.inl rfl) (ca.pre (aZ.trans (cq.trans fC))) (afH.pre (cq.trans fC)) sz) ?_;rintro _ ⟨b,rfl,yT⟩;refine⟨_,s4,rfl,?_⟩;simp only[au,aq];rw[Za,yT.2 rfl,ae];have FH:=FG.trans fC;refine Ok.mn (tx s4 FH (some (x.blocks.toNat,v.W)) (some (i,0)) ⟨false,i,j,rfl,VS.pre fC⟩) ?_;rintro _ ⟨s5,rfl,ji⟩;refine⟨_,s5,rfl,ji,?_⟩;have aea:Ce img x (some (x.blocks.toNat,v.W))=Ai img x v.W:=by
  unfold Ce;rw[hw];simp
 rw[aea];simp only[au,aq];have Vz:=FH.trans ji;rw[pU s5 Vz,<-lq,oh];refine Ok.call (hrc s5 Vz (dJ v.W) q (hsq.mono (cq.trans (fC.trans ji))) (Ac _) (by omega) (λk hk=>?_) (by omega) (by omega)) ?_
 .obtain⟨b,rfl,hb⟩:=qk.1 hk
  have:=XQ b hb;omega
 rintro _ ⟨b2,s6,rfl,VB,cV⟩;refine⟨_,s6,rfl,?_⟩;simp only[au,aq];have CQ:Ai img x v.W=b2:=by
  rw[iQ,cV];exact ZsI hx db.len db.lt XQ hb
 rw[CQ,show(b2==b2)=true by cases b2<;>rfl,Zd];exact .mk ⟨s6,rfl,Vz.trans VB⟩
end Go.Gv.F
