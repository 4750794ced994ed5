/- The law of images that are spoilt, with two superblocks. -/
import Derived.Test.YtegglibipjjblaaGreatDoorGvZKa
import Derived.Test.YtegglibipjjblaaGreatDoorGvCLawC
import Derived.Test.YtegglibipjjblaaGreatDoorGvMLawP
set_option linter.all false
namespace Go.Gv.F
set_option maxHeartbeats 4000000
open Go.Gv
theorem law_law27_CheckSpoilt {Bd:Zh} (h:HA Bd) (s:St) (args:ah) (tz:Mn s) (ht:sO s) (hr:Mr s [(true,adC),(true,.pr (.i .u8) (.pr (.i .u8) .un)),(false,.sl NR)] args): ∃n s',run Bd n 342 args s=some (.val [.bool true],s'):=by
 obtain⟨_,d,_,hx,iB,rfl,hd⟩:=hr;obtain⟨_,e,_,hy,K1,rfl,he⟩:=iB;obtain⟨_,f,_,hz,hr4,rfl,hf⟩:=K1;cases hr4;obtain⟨x,z1,p1,z2,p2,z3,p3,rfl,jA,gp,jP,cd,rg⟩:=akq hx;have hd:d= .agg (dw x z1 p1 z2 p2 z3 p3):=hd;subst hd;obtain⟨_,_,rfl,⟨a,rfl,a1,a2⟩,⟨_,_,rfl,⟨b,rfl,b1,b2⟩,hu⟩⟩:=hy;cases hu;have a1:0<=a:=a1;have a2:a<=255:=a2;have b1:0<=b:=b1;have b2:b<=255:=b2;have he:e= .agg [.u a,.u b]:=he;subst he;have hf:_=[f]:=hf;subst hf;obtain⟨ps,l,rfl,dI,Fe⟩:=Zxt hz;have hF:=cd.aku tz;refine ZzL (n:=100000) ?_;rw[Ze,h.ahs];unfold Ri ZF Na bu az Mx Aa il Lb ZP ba ye
 try dsimp only
 unfold dw;simp only[ZI,av,Zf 2 z1 p1 _ jA,Zf 1 z2 p2 _ gp,Zf 1 z3 p3 _ jP,aV,aq];refine Ok.cv (Zk9 99999 AC s ht) λs1 aD=>?_
 have K6:=ht.mono aD;rw[au,aq];have adL:Ok (λo:Out ah×St=>∃s',o=(.val [DV.bool true],s')) (cV (run Bd 99999 322 []) (λds=>gK ds λx7 ds=>aI ds (ax [DV.bool x7])) s1):=by
  refine Ok.cv (Zk9 99999 AC s1 K6) λs3 cz=>?_
  rw[au,aq,Zd];exact .mk ⟨s3,rfl⟩
 rw[Za,bw,af];refine Ok.call (Zqy 99999 x 2 1 1 p1 p2 p3 s1 (.inl rfl) (.inl rfl) (.inl rfl) (cd.pre aD) AC) ?_;rintro _ ⟨c,rfl,hc⟩;refine⟨_,s1,rfl,?_⟩;simp only[au,aq];rw[Za];cases c with
 |false=>
  rw[bp,ae];simp only[au,aq];rw[ae];exact adL
 |true=>
 have sz:=(hc.1 rfl).sz;rw[bw,af];simp only[au,aq];by_cases Ko:(l.length:Int)>6
 .rw[aX Ko]
  exact adL
 rw[aZ Ko];have hw: ∀a:Int,0<=a->a<=255->ar (1+ar a)=1+a:=λa h1 h2=>by rw[Zc (x:=a),Zc]
 rw[hw a a1 a2,hw b b1 b2];refine Ok.call (Zk5 99999 x 2 1 1 p1 p2 p3 (1+a) 0 s1 (.inl rfl) (.inl rfl) (.inl rfl) (hF.kp aD.kp) sz) ?_;rintro _ ⟨s2,aU,hq⟩;rcases hq with⟨B,sp,ib,q,hm,hB,rfl,qE⟩|⟨_,rfl⟩
 rotate_left
 .refine⟨_,s2,rfl,?_⟩
  unfold Zvq;simp only[ZI,av,Zf 1 0 none _ (.inr rfl),au,aq];rw[bp,ae,Zd];exact .mk ⟨s2,rfl⟩
 refine⟨_,s2,rfl,?_⟩;obtain⟨rfl,hP⟩:=ZuU hB;have⟨g1,g2,_⟩:=ZR hm.J3;have J7:=hP.len;have eL:=hP.ok;have cO:=Zpg eL;have⟨y,hye,ze,hyc⟩: ∃y:cy,dq y q=[.i (1+b),.i (fG x (1+a)).blocks,.i (fG x (1+a)).dc,.i (fG x (1+a)).g,.i (fG x (1+a)).cm,.i (fG x (1+a)).used,.i (fG x (1+a)).free,.i (fG x (1+a)).dir,.slice 1 q (fG x (1+a)).aJ.length]/\pB y/\y.aJ=(fG x (1+a)).aJ:=
  ⟨{ fG x (1+a)with seq:=1+b },rfl,⟨by show 1<=1+b;omega,by show 1+b<=_;omega,eL.g,eL.u0,eL.u1,eL.f0,eL.f1,eL.t0,eL.t1,eL.d,eL.len,eL.ch⟩,rfl⟩
 have lN:=Zpr ze;have acQ:=Tu 99999 y q s2 (by rw[hyc];exact qE.own.sl) (by rw[hyc];omega);rw[hye]at acQ;unfold dq;simp only[aV,ZI,av,au,aq];rw[bw,af,Zb (aS AC)];refine Ok.cn acQ λs3 cz=>?_
 rw[bT,aq];have fF:bg s1 s2 (some (ib,0)) (bI B):=⟨aU,.inr ⟨ib,rfl,qE.new,qE.dR⟩⟩;have⟨t,ho,_,he⟩:=(fF.mono cz).wr (β:=ah) AC (k:=64) AC (sZ y);rw[dF AC]at he;rw[dF AC];show Ok _ (rK (some (ib,0+64)) _ _ s3);rw[eJ,lH,he];have⟨C,hC⟩: ∃C,mQ B 64 (sZ y)=C:=⟨_,rfl⟩;have hCl:C.length=B.length:=by rw[<-hC,Jw _]
 rw[hC]at ho;have iZ:=Zpc 99999 (some (ib,0)) C ps 4 l t ho.sl (.inl rfl) (dI.mono (aD.trans ho.1)) Fe AC AC AC AC;rw[hCl]at iZ;refine Ok.call iZ ?_;rintro _ ⟨q9,s4,rfl,fe,hf⟩;refine⟨_,s4,rfl,?_⟩;rw[aV,aq];have hw:=ZoU 99999 q9 (AE C l) s4 (K6.mono (ho.1.trans fe)) hf.rM (by rw[M2 l AC];omega) AC;rw[M2 l AC,hCl]at hw;refine Ok.cv hw λs5 _=>?_
 rw[au,aq,Zd];exact .mk ⟨s5,rfl⟩
end Go.Gv.F
