/- What is told of an image is the document's. -/
import Derived.Test.YtegglibipjjblaaGreatDoorGvBMk
import Derived.Test.YtegglibipjjblaaGreatDoorGvZMj
import Derived.Test.YtegglibipjjblaaGreatDoorGvMLawT
set_option linter.all false
namespace Go.Gv.F
set_option maxHeartbeats 4000000
open Go.Gv
theorem YQ (s:St):na s pB none none none:=⟨⟨[],rfl,rfl⟩,rfl,rfl⟩
variable {Bd:Zh} [h:HA Bd]
theorem Zom (n:Nat) (a:ai) (img:aj) (x:dY) (pc:ai) (s:St) (ht:wo s) (ha:dE s a img) (hc:Sl s pc (ints x.aL)) (hl:img.length<1000000) (cL:x.aL.length<1000) (hn:90000<=n):
  Ok (λo=>∃s',o=(.val [.bool true],s')/\aC s s') (run Bd n 186 [.slice 1 a img.length,.agg (dO x pc)] s):=by
 obtain⟨n,rfl⟩: ∃k,n=k+1:=⟨n-1,by omega⟩;rw[Ze,h.abc];unfold O1 ZZ DE ZH Hb aY az iu cm mh xS wq Lb Lp tH;simp only[bd];have hwa:=OY n a img x pc s ha hc hl cL;have MJ:=λs1 (hp:aC s s1)=>Zog n img x pc s1 hl (hc.mono hp) cL (by omega)
 have AS:=λs1 (hp:aC s s1)=>Om n x pc s1 (hc.mono hp) cL
 have oY: ∀s1,aC s s1->∀K:ah->M ah,dw a img.length K s1=K (bZ img) s1:=λs1 hp K=>by
  have:=jf (show Sl _ a (bZ img)from ha.mono hp) K;rwa [Zt]at this
 have uc:=λs1 (hp:aC s s1) rm pr (hr:ZsU s1 rm pr)=>ZiE n a img x pc rm pr s1 (ht.mono hp) (ha.mono hp) (hc.mono hp) hr hl cL
 have hrc:=λs1 (hp:aC s s1) l p h1 h2 h3 h4 h5 h6=>ZmM n img x pc l p s1 (hc.mono hp) h1 h2 h3 h4 h5 cL hl h6
 have Iq:=λs1=>ZkJ n pB pB 2 1 1 none none none 0 0 0 none none none s1 (.inl rfl) (.inl rfl) (.inl rfl) (.inr rfl) (.inr rfl) (.inr rfl) (YQ s1) (YQ s1) ⟨⟨cE _,(λg hg=>nomatch hg),(λg hg=>nomatch hg)⟩,cE _,cE _,cE _⟩
 unfold dO at hwa MJ AS uc hrc⊢;rw[de];simp only[av,bd,aq];refine Ok.call hwa ?_;intro o ho;cases hw:ox (nG img x)with
 |none=>
  rw[hw]at ho;obtain⟨s1,rfl,aH⟩:=ho;refine⟨_,s1,rfl,?_⟩;have qj:iN x=false:=by
   unfold ox at hw;cases qj:iN x with
   |false=>rfl
   |true=>
    rw[show iN (nG img x).sup=iN x from rfl,qj,ae]at hw;grind
  rw[de];unfold dD;simp only[av,Zf 2 0 none _ (.inr rfl),Zf 1 0 none _ (.inr rfl),fV,aq];rw[oY s1 aH,<-ly,nK];refine Ok.call (MJ s1 aH) ?_;rintro o ⟨s2,aV,ho⟩;rw[show tL img x=none by grind[tL]]at ho;simp only at ho;subst ho;refine⟨_,s2,rfl,?_⟩;rw[de];unfold zz;simp only[av,Zf 2 0 none _ (.inr rfl),Zf 1 0 none _ (.inr rfl),au,aq];refine Ok.call (AS s2 (aH.trans aV)) ?_;rintro _ ⟨s3,rfl,ck⟩;refine⟨_,s3,rfl,?_⟩;simp only[au,aq];rw[qj,bm,ae,Za,show((2:Int)==2)=true from rfl,ae];simp only[au,aq];rw[Za,show(Option.isNone (none:ai))=true from rfl,ae];refine Ok.call (Iq s3) ?_;rintro _ ⟨b,rfl,hb⟩;refine⟨_,s3,rfl,?_⟩;simp only[au,aq];rw[Zd,hb.2 rfl];exact .mk ⟨s3,rfl,(aH.trans aV).trans ck⟩
 |some q=>
 obtain⟨qj,rF⟩:iN x=true/\(bif decide (x.blocks<=((img.length/64:Nat):Int))then some (uC (nG img x))else some none)=some q:=by
  unfold ox at hw;rw[show(nG img x).sup=x from rfl,show(nG img x).img=img from rfl]at hw;grind
 have hx:=(zH x).1 qj;obtain⟨g1,g2,_⟩:=Z2 hx.g;cases q with
 |none=>
  rw[hw]at ho;obtain⟨s1,rfl,aH⟩:=ho;refine⟨_,s1,rfl,?_⟩;have hwn:tL img x=none:=by
   by_cases hb:x.blocks<=((img.length/64:Nat):Int)
   .rw[aw hb,ae]at rF
    have:=Zqw (K:=nG img x) (img:=img) (x:=x) rfl rfl rfl hx hb;rwa [Dq rF]at this
   .unfold tL
    rw[qj,aw (show x.blocks>((img.length/64:Nat):Int) by omega)];rfl
  rw[de];unfold dD;simp only[av,Zf 2 0 none _ (.inr rfl),Zf 1 0 none _ (.inr rfl),fV,aq];rw[oY s1 aH,<-ly,nK];refine Ok.call (MJ s1 aH) ?_;rintro o ⟨s2,aV,ho⟩;rw[hwn]at ho;simp only at ho;subst ho;refine⟨_,s2,rfl,?_⟩;rw[de];unfold zz;simp only[av,Zf 2 0 none _ (.inr rfl),Zf 1 0 none _ (.inr rfl),au,aq];refine Ok.call (AS s2 (aH.trans aV)) ?_;rintro _ ⟨s3,rfl,ck⟩;refine⟨_,s3,rfl,?_⟩;simp only[au,aq];rw[qj,bp,af,bm,ae,Za,show((31:Int)==31)=true from rfl,ae];simp only[au,aq];rw[Za,show(Option.isNone (none:ai))=true from rfl,ae];refine Ok.call (Iq s3) ?_;rintro _ ⟨b,rfl,hb⟩;refine⟨_,s3,rfl,?_⟩;simp only[au,aq];rw[Zd,hb.2 rfl];exact .mk ⟨s3,rfl,(aH.trans aV).trans ck⟩
 |some v=>
 rw[hw]at ho;obtain⟨s1,z2,p2,z3,p3,z4,p4,i,j,rfl,aH,e2,e3,e4,cc,db,hj,oU⟩:=ho;refine⟨_,s1,rfl,?_⟩;have hb:x.blocks<=((img.length/64:Nat):Int):=by
  by_cases hb:x.blocks<=((img.length/64:Nat):Int)
  .exact hb
  grind
 rw[aw hb,ae]at rF;have hwe:=Zqw (K:=nG img x) (img:=img) (x:=x) rfl rfl rfl hx hb;rw[Dq rF]at hwe;obtain⟨hwI,all,cQ⟩:=hwe;have Xm: ∀b,dT v.W b=true->b<x.blocks.toNat:=λb hb=>by
  rw[cQ,D2 all (by unfold kE;rw[(oL _ _ _).1,uH]),uV]at hb;omega
 obtain⟨sz,CG⟩:=Zwd hx hwI;rw[de];unfold dD;simp only[av,Zf 2 z2 p2 _ e2,Zf 1 z3 p3 _ e3,Zf 1 z4 p4 _ e4,fV,aq];rw[oY s1 aH,<-ly,nK];refine Ok.call (MJ s1 aH) ?_;rintro o ⟨s2,aV,ho⟩;rw[hwI]at ho;obtain⟨y8,q1,q2,q3,q,rfl,IA,ae2,hsq⟩:=ho;refine⟨_,s2,rfl,?_⟩;have sX:=aH.trans aV;rw[de];unfold dD;simp only[av,Zf 2 y8 q1 _ IA,bd,au,aq];refine Ok.call (AS s2 sX) ?_;rintro _ ⟨s3,rfl,ck⟩;refine⟨_,s3,rfl,?_⟩;have Fc:=sX.trans ck;simp only[au,aq];rw[qj,bp,af,af,Za,show((0:Int)==0)=true from rfl,ae];simp only[au,aq];rw[Za,show(!Option.isNone (some (i,0)))=true from rfl,ae];have Vj:=db.pre (aV.trans ck);rw[show n=(n-1)+1 by omega,wu (ZqD (n-1) s3 Vj),show n-1+1=n by omega];simp only[av,au,aq];rw[Za,show(((x.blocks.toNat:Nat):Int)==x.blocks)=true by rw[sd];omega,ae];refine Ok.Af (Zlk (YW) n s3 (ht.mono Fc) Vj) ?_;rintro _ ⟨pl,s4,rfl,fG,aeY,_⟩;refine⟨_,s4,rfl,?_⟩;simp only[bd,aq];refine Ok.call (Oh n (dC v.W) (dC v.W) pl q s4 aeY (hsq.mono (ck.trans fG)) (by omega) (by omega)) ?_;rintro _ rfl;refine⟨_,s4,rfl,?_⟩;rw[aw (show dC v.W=dC v.W from rfl)];simp only[au,aq];rw[Za,ae];refine Ok.call (ZkJ n (vV x v) (vV x v) 2 1 1 p2 p3 p4 2 1 1 q1 q2 q3 s4 (.inl rfl) (.inl rfl) (.inl rfl) (.inl rfl) (.inl rfl) (.inl rfl) (cc.pre (aV.trans (ck.trans fG))) (ae2.pre (ck.trans fG)) sz) ?_;rintro _ ⟨b,rfl,yy⟩;refine⟨_,s4,rfl,?_⟩;simp only[au,aq];rw[Za,yy.2 rfl,ae];have Fe:=Fc.trans fG;refine Ok.lT (uc s4 Fe (some (x.blocks.toNat,v.W)) (some (i,0)) ⟨false,i,j,rfl,Vj.pre fG⟩) ?_;rintro _ ⟨s5,rfl,jd⟩;refine⟨_,s5,rfl,jd,?_⟩;have adv:BL img x (some (x.blocks.toNat,v.W))=zS img x v.W:=by
  unfold BL;rw[hw];simp
 rw[adv];simp only[au,aq];have U2:=Fe.trans jd;rw[oY s5 U2,<-ly,nK];refine Ok.call (hrc s5 U2 (dC v.W) q (hsq.mono (ck.trans (fG.trans jd))) (zJ _) (by omega) (λk hk=>?_) (by omega) (by omega)) ?_
 .obtain⟨b,rfl,hb⟩:=pN.1 hk
  have:=Xm b hb;omega
 rintro _ ⟨b2,s6,rfl,U4,cU⟩;refine⟨_,s6,rfl,?_⟩;simp only[au,aq];have Cm:zS img x v.W=b2:=by
  rw[lg,cU];exact ZsF hx db.len db.lt Xm hb
 rw[Cm,show(b2==b2)=true by cases b2<;>rfl,Zd];exact .mk ⟨s6,rfl,U2.trans U4⟩
end Go.Gv.F
