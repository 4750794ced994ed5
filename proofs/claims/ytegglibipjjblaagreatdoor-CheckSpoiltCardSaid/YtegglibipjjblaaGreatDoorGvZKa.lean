/- A block's superblock, and the one that counts: the document's. -/
import Derived.Test.YtegglibipjjblaaGreatDoorGvZCa
import Derived.Test.YtegglibipjjblaaGreatDoorGvZMj
import Derived.Test.YtegglibipjjblaaGreatDoorGvMOk3
set_option linter.all false
namespace Go.Gv.F
open Go.Gv
set_option maxHeartbeats 4000000
variable {e:Int} {n t:Nat} {v:aR} {img l:aj}
theorem Zy4 {b:aj} (h:b.length=56) (ht:t<=8):HX (jR b t)=b.take (32+2*t):=by
 unfold HX jR;simp only;rw[qB,qB,qB,qB,qB,qB,qB,qB,II t AC,dE];have e1:b.take 8++(b.drop 8).take 4=b.take 12:=by rw[<-nx]
 have e2:b.take 12++(b.drop 12).take 4=b.take 16:=by rw[<-nx]
 have e3:b.take 16++(b.drop 16).take 4=b.take 20:=by rw[<-nx]
 have e4:b.take 20++(b.drop 20).take 4=b.take 24:=by rw[<-nx]
 have e5:b.take 24++(b.drop 24).take 4=b.take 28:=by rw[<-nx]
 have e6:b.take 28++(b.drop 28).take 2=b.take 30:=by rw[<-nx]
 have e7:b.take 30++(b.drop 30).take 2=b.take 32:=by rw[<-nx]
 rw[e1,e2,e3,e4,e5,e6,e7,<-nx]
theorem ZxH {b:aj} (ho:fU l=some (7,t,b)) (ht:t<=8):nh l=(bif ZT (jR b t)&&sZ (jR b t)==l then some (jR b t)else none):=by
 have⟨h1,h2,h3,h4⟩:=sP ho;have key:(sZ (jR b t)==l)=ZD (b.drop (32+2*t)):=by
  have gm:(jR b t).aJ.length=t:=IL b t;unfold sZ;rw[Zy4 h2 ht,gm,lS,va]
  conv=>lhs;rhs;rw[h1]
  have:=Gu (k:=7) (t:=t) (k':=7) (t':=t) (b:=b.take (32+2*t)) (b':=b) AC AC h4 AC AC h4 (by rw[cR];omega);rw[show((7:Nat):Int)=7 from rfl]at this;rw[show((7:Nat):Int)=7 from rfl,this,I5 h2,Jd h2];simp
 grind[nh]
variable {Bd:Zh} [h:HA Bd]
theorem Zs1 (n:Nat) (p:ai) (l:aj) (st:St) (hs:c9 st p l) (hl:l.length=64) (hn:6000<=n):
  Ok (ub st (nh l)) (run Bd n 350 [.slice 1 p 64] st):=by
 obtain _|n:=n;omega;rw[Ze,h.ahz];unfold T8 bZ vy az cA Iw bu jI Mz mq ba wL Ls ZP BU Lb Li Iz
 try dsimp only
 rw[aV,aq,ZJ];refine Ok.cv (F7 n p l st hs hl) λs1 aD=>?_
 have eY:=hs.mono aD;have bad: ∀s',aA st s'->nh l=none->Ok (ub st (nh l)) ((cc st.length [.agg ry,.bool false]:M ah) s'):=λs' hp hg=>by
  rw[Zp,hg];exact .mk ⟨_,Zq hp,0,rfl⟩
 unfold zF;cases ho:fU l with
 |none=>
  simp only[av,bT,au,aq];rw[Za,bp,ae];simp only[au,aq];rw[Za,ae];simp only[au,aq];rw[ae];exact bad s1 aD (by unfold nh;rw[ho])
 |some q=>
  have⟨k,t,b⟩:=q;have⟨_,hb,_,ht⟩:=sP ho;simp only[av,bT,au,aq];rw[Za,bw,af,nE k 7 7 rfl];simp only[au,aq];rw[Za];by_cases hk:k=7
  .subst hk
   rw[aS rfl,bw,af];simp only[au,aq];by_cases Fg:t<=8
   .rw[bM (AC:¬(t:Int)>8),af]
    have cC:=ZxH ho Fg;have rn: ∀(a c:Nat),c<=8->run Bd n 292 [.str ((b.take (a+c)).drop a)] s1=some (.val [.i (bR b a c)],s1):=λa c hc=>by
     rw[yc n _ s1 (Az hc),Ay]
    have r0:run Bd n 292 [.str (b.take 8)] s1=some (.val [.i (bR b 0 8)],s1):=by
     have:=rn 0 8 AC;rwa [dE]at this
    rw[Zb (aS AC),Zk r0,av,aq,Zb (aS AC),Zk (rn 8 4 AC),av,aq,Zb (aS AC),Zk (rn 12 4 AC),av,aq,Zb (aS AC),Zk (rn 16 4 AC),av,aq,Zb (aS AC),Zk (rn 20 4 AC),av,aq,Zb (aS AC),Zk (rn 24 4 AC),av,aq,Zb (aS AC),Zk (rn 28 2 AC),av,aq,Zb (aS AC),Zk (rn 30 2 AC),av,aq];refine Ok.join λaW kW=>?_
    refine Zj _ (λq y s=>∃(i z:Nat) (pk:ai),y=[.agg (Dw b z pk i),.i i]/\(z=1\/pk=none)/\i<=t/\t-i<=q/\bg st s pk (ints (Ax b i))/\c9 s p l) ?_ t n _ _ ⟨0,0,none,rfl,.inr rfl,AC,AC,.nil aD,eY⟩ AC;rintro q _ s ⟨i,z,pk,rfl,hz,hi,hq,fF,vM⟩ rec aL;rw[dY];unfold Dw;simp only[av,Zf 1 z pk _ hz,aq];have gm:=IL b i;have j6:(ints (Ax b i)).length=i*1:=by rw[Zrv];omega
    by_cases aw:i<t
    .have cM:ar ((i:Int)+1)=((i+1:Nat):Int):=Zc
     have jO:ar (2*(i:Int))=((2*i:Nat):Int):=Zc;have kh:ar (34+((2*i:Nat):Int))=((32+2*i+2:Nat):Int):=by rw[Zc];omega
     have p7:ar (32+((2*i:Nat):Int))=((32+2*i:Nat):Int):=by rw[Zc];omega
     simp only[cM,jO,kh,p7,br];rw[aS (AC:(i:Int)<(t:Int)),ae,Zb (by rw[aY,bn,bn];omega),Zb (by rw[aY,bn,bn];omega),wS (yc n _ s (Az (a:=32+2*i))),Ay,av,aq];have⟨q2,s2,dj,tt⟩:=fF.push (β:=ah) (sz:=1) (n:=i) (lim:=8796093022208) [.i (bR b (32+2*i) 2)] AC j6 rfl AC;rw[tt];refine aL (t-(i+1)) _ _ AC ⟨i+1,1,q2,rfl,.inl rfl,AC,aM _,?_,?_⟩
     .rw[Zmm,Zry]
      exact dj
     .exact hs.mono dj.1
    .rw[bM (AC:¬(i:Int)<(t:Int)),af]
     have Ba:i=t:=AC
     subst Ba;subst kW;show Ok _ (bh [DV.agg _] _ s);rw[dY];simp only[av,aV,aq];have dI:Sl s pk (ints (jR b i).aJ):=fF.sl;have oH:(jR b i).aJ.length=i:=gm;have mG:([.i (bR b 0 8),.i (bR b 8 4),.i (bR b 12 4),.i (bR b 16 4),.i (bR b 28 2),.i (bR b 20 4),.i (bR b 24 4),.i (bR b 30 2),.slice 1 pk i]:ah)=dq (jR b i) pk:=by
      unfold dq;rw[oH];rfl
     rw[mG];refine Ok.cv (RP n (jR b i) pk s dI) λs2 aU=>?_
     rw[au,aq,Za];cases hr:ZT (jR b i)with
     |false=>
      rw[hr,gu,af]at cC;rw[bp,ae];simp only[au,aq];rw[ae];exact bad s2 (fF.1.trans aU) cC
     |true=>
      rw[hr,dL]at cC;rw[bw,af];refine Ok.cx (Tu n (jR b i) pk s2 (dI.mono aU)) λs3 cz=>?_
      rw[bT,aq];have rl: ∀(K:ah->M ah),dx p 64 K s3=K (bI l) s3:=λK=>by
       have:=iC (show Sl _ _ (bI l)from(vM.mono aU).mono cz) K;rwa [Zs,hl]at this
      rw[rl,<-lH,rf];simp only[au,aq];have YJ:=(fF.mono aU).mono cz;cases cO:(sZ (jR b i)==l)with
      |false=>
       rw[cO]at cC;rw[bp,ae];exact bad s3 YJ.1 cC
      |true=>
       rw[cO,ae]at cC;rw[bw,af,Zp,cC];exact .mk ⟨_,Zq YJ.1,pk,rfl,YJ.fz.1⟩
   .rw[aS (AC:(t:Int)>8),ae]
    refine bad s1 aD ?_;grind[nh]
  .rw[bM hk,bp,ae]
   simp only[au,aq];rw[ae];refine bad s1 aD ?_;grind[nh]
theorem qo.dU {st s:St} {r:Option cy} {cs:ah} {b:Bool} (h:qo s r cs b):qo (Z2 st.length s) r cs b:=by
 cases r with
 |none=>exact h
 |some x=>have⟨p,h1,h2,h3⟩:=h;exact⟨p,h1,h2,h3.dU _⟩
theorem ZnJ (n:Nat) (img:aj) (k:Nat) (st:St) (hl:img.length<1000000) (hk:k<2:=by omega) (hn:6001<=n:=by omega):
  Ok (ub st (lP img k)) (run Bd n 349 [.str img,.i k] st):=by
 obtain _|n:=n;omega;rw[Ze,h.ahy];unfold UJ oi az Ah wL ba BU Lb lP;simp only[bT,av,aq,ZJ,Za];have hw:ar (((64*k:Nat):Int)+64)=((64*k+64:Nat):Int):=by rw[Zc];omega
 have zl:ar (64*(k:Int))=((64*k:Nat):Int):=by rw[Zc];omega
 rw[bM (AC:¬(k:Int)<0),af,bM (AC:¬(k:Int)>1)];simp only[au,aq,af];simp only[zl,hw,br];by_cases aw:k<img.length/64
 .rw[aS aw,ae,bM (AC:¬(img.length:Int)<((64*k+64:Nat):Int))]
  rw[af,Zb (by rw[aY,bn,bn];omega),Zb (by rw[aY,bn,bn];omega),Zz];have hc:(img.take (64*k+64)).drop (64*k)=p8 img k:=by
   grind[p8]
  have gD:(p8 img k).length=64:=Fd
  rw[hc,gD];have hb:c9 (st++[some ⟨false,ZM (p8 img k)⟩]) (some (st.length,0)) (p8 img k):=⟨false,ZM (p8 img k),Do,Nat.le_of_eq (by rw[eJ,lH]),by rw[dE,lH,oY]⟩;refine Ok.call (Zs1 n _ _ _ hb gD AC) ?_;intro o ho;obtain⟨s1,cs,b,rfl,aD,hm⟩:=ho.out;refine⟨_,s1,rfl,?_⟩;obtain⟨a1,a2,a3,a4,a5,a6,a7,a8,z,p,m,rfl,hz,_,mL⟩:=hm.nine;rw[ZI];unfold Bp;simp only[av,Zf 1 z p _ hz,au,aq];rw[Zp];have hp:aA st (Z2 st.length s1):=Zq ((aA.new _ _).trans aD);have fE:=mL.dU (st:=st);cases hg:nh (p8 img k)with
  |none=>
   rw[hg]at fE;obtain⟨⟨z',e⟩,rfl⟩:=fE;exact .mk ⟨_,hp,z',by rw[<-e];rfl⟩
  |some x=>
   rw[hg]at fE;obtain⟨q,e,rfl,hs⟩:=fE;exact .mk ⟨_,hp,q,by rw[<-e];rfl,hs⟩
 .rw[bM aw,af,aS (AC:(img.length:Int)<((64*k+64:Nat):Int))]
  rw[ae,Zp];exact .mk ⟨_,Zq (.refl _),0,rfl⟩
theorem Zsa (n:Nat) (img:aj) (st:St) (hl:img.length<1000000) (hn:6010<=n):
  Ok (QS st (wm img)) (run Bd n 348 [.str img] st):=by
 obtain _|n:=n;omega;rw[Ze,h.ahx];unfold Tt jU Ah az eQ BT Lb
 try dsimp only
 rw[bT,aq,ZJ];refine Ok.call (ZnJ n img 0 st hl) ?_;intro o ho;obtain⟨s1,cs,b,rfl,aD,hm⟩:=ho.out;refine⟨_,s1,rfl,?_⟩;obtain⟨a1,a2,a3,a4,a5,a6,a7,a8,z,p,m,rfl,hz,HG,mL⟩:=hm.nine;rw[ZI];unfold Bp;simp only[av,Zf 1 z p _ hz,au,aq];refine Ok.call (ZnJ n img 1 s1 hl) ?_;intro o ho;obtain⟨s2,cI,b2,rfl,aU,fE⟩:=ho.out;refine⟨_,s2,rfl,?_⟩;obtain⟨c1,c2,c3,c4,c5,c6,c7,c8,z2,p2,m2,rfl,gp,YY,tA⟩:=fE.nine;rw[ZI];unfold Bp;simp only[av,Zf 1 z2 p2 _ gp,au,aq];have iX:=aD.trans aU;have e1:=mL.b;have e2:=tA.b;have Be:=(mL.mono aU).dU (st:=st);have Ph:=tA.dU (st:=st);unfold wm;have⟨ra,hra⟩: ∃r,lP img 0=r:=⟨_,rfl⟩;have⟨rb,hrb⟩: ∃r,lP img 1=r:=⟨_,rfl⟩;rw[hra]at e1 Be HG⊢;rw[hrb]at e2 Ph YY⊢;rw[Za];cases rb with
 |none=>
  subst e2;rw[show Option.isSome (none:Option cy)=false from rfl,af];simp only[au,aq];rw[af,Zp];refine .mk ⟨_,_,_,_,rfl,Zq iX,?_⟩;cases ra<;>exact Be
 |some y=>
  subst e2;rw[show Option.isSome (some y)=true from rfl,ae,Za];cases ra with
  |none=>
   subst e1;rw[show(!Option.isSome (none:Option cy))=true from rfl,ae];simp only[au,aq];rw[ae,Zp];exact .mk ⟨_,_,_,_,rfl,Zq iX,Ph⟩
  |some x=>
   subst e1;rw[show(!Option.isSome (some x))=false from rfl,af,HG x rfl,YY y rfl];simp only[au,aq];rw[show xM (xM none (some x)) (some y)=(bif decide (y.seq>x.seq)then some y else some x)from rfl];cases hd:decide (y.seq>x.seq)with
   |true=>
    rw[ae,ae,Zp];rw[YY y rfl]at Ph;exact .mk ⟨_,_,_,_,rfl,Zq iX,Ph⟩
   |false=>
    rw[af,af,Zp];rw[HG x rfl]at Be;exact .mk ⟨_,_,_,_,rfl,Zq iX,Be⟩
theorem Zsk (n:Nat) (x:cy) (pc:ai) (l:ak) (p:ai) (st:St) (hc:Sl st pc (ints x.aJ)) (hs:Sl st p (ints l)) (hr:kN l) (hl:l.length<50000) (cO:x.aJ.length<1000) (hn:l.length+x.aJ.length+1000<=n):
  Ok (λo=>∃p r s',o=(.val [.slice 1 p r.length],s')/\aA st s'/\Sl s' p (ints r)/\DQ x.blocks l x.aJ r) (run Bd n 344 [.agg (dq x pc),.slice 1 p l.length] st):=by
 obtain _|n:=n;omega;rw[Ze,h.aht];unfold Ti Z6 bZ fJ kB Zn il ba Z7 ep
 try dsimp only
 rw[dY];unfold dq;simp only[av,aV,aq,ZJ];refine Ok.join λay mK=>?_
 refine Zj _ (λq y t=>∃(i:Nat) (r:ak) (p':ai),y=[.slice 1 p' r.length,.i (i:Int)]/\i<=x.aJ.length/\x.aJ.length-i<=q/\aA st t/\Sl t p' (ints r)/\kN r/\r.length<=l.length+i/\∀k,k∈r↔k∈l\/(k∈x.aJ.take i/\0<=k/\k<x.blocks)) ?_ x.aJ.length n _ _ ⟨0,l,p,rfl,cB _,AC,.refl _,hs,hr,AC,λk=>Do⟩ AC;rintro q y t ⟨i,r,p',rfl,hi,hq,hp,hf,HB,De,gY⟩ rec aL;rw[aV,av,aq];by_cases aw:i<x.aJ.length
 .obtain⟨i1,o1,rfl⟩:=hc.cF (by simp[ints];omega)
  have di:(ints x.aJ)[i]? =some (.i x.aJ[i]):=ZC aw;have fM:x.aJ.take (i+1)=x.aJ.take i++[x.aJ[i]]:=lV aw;rw[aX,bc,Zb (Zi aw),br,(hc.mono hp).dO di,bj];generalize x.aJ[i]=w at di fM;refine Ok.call (Tl n r 1 p' x.blocks w t (.inl rfl) hf HB) ?_;rintro _ ⟨p2,r2,s2,rfl,aU,nj,iB,fE⟩;refine⟨_,s2,rfl,?_⟩;rw[aV,aq,Zc];refine aL (x.aJ.length-(i+1)) _ _ AC ⟨i+1,r2,p2,rfl,AC,aM _,hp.trans aU,nj,iB,?_,λk=>?_⟩
  .have:r2.length<=(w::r).length:=yp iB.nodup λk hk=>by
    grind
   rw[cQ]at this;omega
  grind
 .rw[aZ,mK]
  rw[dF AC]at gY;simp only[aV,aq];rw[Zp];exact .mk ⟨p',r,_,rfl,Zq hp,hf.dU _,HB,gY⟩
def ZAH (st:St) (r:Option (cy×aR)×Int) (o:Out ah×St):Prop:=∃s',aA st s'/\match r with
 |(none,e)=>o=(.val [.agg (dw nX 2 none 1 none 1 none),.i e],s')
 |(some (x,v),_)=>∃p2 p3 p4,o=(.val [.agg (dw (fw x v) 2 p2 1 p3 1 p4),.i 0],s')/\jK s' (fw x v) p2 p3 p4
theorem ZpZ (n:Nat) (a:ai) (img:aj) (st:St) (ht:sO st) (ha:c9 st a img) (hl:img.length<262144) (hn:50001<=n):
  Ok (ZAH st (mB img)) (run Bd n 341 [.slice 1 a img.length] st):=by
 obtain _|n:=n;omega;rw[Ze,h.ahr];unfold SC bZ yf ba BS
 try dsimp only
 rw[aV,aq,ZJ];refine Ok.call (RS n a img st ht ha hl) ?_;rintro o ⟨s1,aD,ho⟩;have⟨R,hR⟩: ∃R,mB img=R:=⟨_,rfl⟩;rw[hR]at ho⊢;have⟨r,e⟩:=R;cases r with
 |none=>
  simp only at ho;obtain⟨rfl,he⟩:=ho;refine⟨_,s1,rfl,?_⟩;rw[ZI];unfold dw;simp only[av,Zf 2 0 none _ (.inr rfl),Zf 1 0 none _ (.inr rfl),eO,aq];rw[Zp];exact .mk ⟨_,Zq aD,rfl⟩
 |some q=>
  have⟨x,v⟩:=q;simp only at ho;obtain⟨z2,p2,z3,p3,z4,p4,i,j,rfl,gp,jP,xx,cd,dp⟩:=ho;refine⟨_,s1,rfl,?_⟩;rw[ZI];unfold dw;simp only[av,Zf 2 z2 p2 _ gp,Zf 1 z3 p3 _ jP,Zf 1 z4 p4 _ xx,eO,aq];rw[Zp];exact .mk ⟨_,Zq aD,p2,p3,p4,rfl,cd.dU _⟩
def aee (st:St) (r:Option (cy×aR)×Int) (o:Out ah×St):Prop:=∃s',aA st s'/\match r with
 |(none,e)=>o=(.val [.slice 0 none 0,.i e],s')
 |(some (x,v),_)=>∃p,o=(.val [.slice 1 p (dB (x.aJ.foldl (bN x.blocks.toNat) v.W)).length,.i 0],s')/\Sl s' p (ints (dB (x.aJ.foldl (bN x.blocks.toNat) v.W)))
theorem Zsb (n:Nat) (a:ai) (img:aj) (st:St) (ht:sO st) (ha:c9 st a img) (hl:img.length<262144) (hn:50001<=n):
  Ok (aee st (mB img)) (run Bd n 346 [.slice 1 a img.length] st):=by
 obtain _|n:=n;omega;rw[Ze,h.ahv];unfold TW bZ yf il ba iH Lp ep
 try dsimp only
 rw[aV,aq,ZJ];refine Ok.call (RS n a img st ht ha hl) ?_;rintro o ⟨s1,aD,ho⟩;have⟨R,hR⟩: ∃R,mB img=R:=⟨_,rfl⟩;rw[hR]at ho⊢;have⟨r,e⟩:=R;cases r with
 |none=>
  simp only at ho;obtain⟨rfl,he⟩:=ho;refine⟨_,s1,rfl,?_⟩;rw[ZI];unfold dw;simp only[av,Zf 2 0 none _ (.inr rfl),Zf 1 0 none _ (.inr rfl),eO,aq];rw[show(!(e==0))=true by rw[eN.2 he];rfl,ae,Zp];exact .mk ⟨_,Zq aD,rfl⟩
 |some q=>
  have⟨x,v⟩:=q;simp only at ho;obtain⟨z2,p2,z3,p3,z4,p4,i,j,rfl,gp,jP,xx,cd,dp⟩:=ho;refine⟨_,s1,rfl,?_⟩;rw[ZI];unfold dw;simp only[av,Zf 2 z2 p2 _ gp,Zf 1 z3 p3 _ jP,Zf 1 z4 p4 _ xx,eO,aq];rw[oz FS];refine Ok.call (Zmv (adG) n s1 (ht.mono aD) dp) ?_;rintro _ ⟨pl,s2,rfl,aU,dI,_⟩;refine⟨_,s2,rfl,?_⟩;rw[aV,aq,Zp];exact .mk ⟨_,Zq (aD.trans aU),pl,rfl,dI.dU _⟩
def Iq (img:aj) (x:cy) (v:aR):Prop:=pB x/\x.blocks<=((img.length/64:Nat):Int)/\vz img x=some (fw x v,dB v.W)/\(∀b,du v.W b=true->b<x.blocks.toNat)/\v.W.length=(x.blocks.toNat+63)/64/\(∀w∈v.W,w<18446744073709551616)/\BQ (fw x v)/\(dB v.W).length<5000/\sL (fw x v)
theorem Zo6 {x:cy} (pZ:ZT x=true):match sy (qU img x)with
  |some (some v)=>Iq img x v
  |_=>vz img x=none:=by
 have hx:=(Ai x).1 pZ;have⟨g1,g2,_⟩:=ZR hx.g;unfold sy;rw[show(qU img x).sup=x from rfl,show(qU img x).img=img from rfl,pZ,ae];by_cases hb:x.blocks<=((img.length/64:Nat):Int)
 .rw[aS hb,ae]
  have PO:=Zys (K:=qU img x) (img:=img) (x:=x) rfl rfl rfl hx hb;cases hw:tQ (qU img x)with
  |none=>rw[hw]at PO;exact PO
  |some v=>
   rw[hw]at PO;have⟨PN,all,dt⟩:=PO;have⟨sz,De⟩:=Zyu hx PN;have vW:(jl x.blocks.toNat [0,1]).length=(x.blocks.toNat+63)/64:=by unfold jl;rw[(ZE _ _ _).1,oV]
   have zl: ∀w∈jl x.blocks.toNat [0,1],w<18446744073709551616:=by
    unfold jl;exact(ZE _ _ _).2 λw hw=>by rw[List.mem_replicate]at hw;omega
   refine⟨hx,hb,PN,λb hb=>?_,?_,?_,sz,De,(Zyz (K:=qU img x) pZ (by show x.blocks=(x.blocks.toNat:Int);omega) hw).may⟩
   .rw[dt,Ak all vW,wO]at hb
    omega
   .rw[dt,(ZE _ _ _).1,vW]
   .rw[dt]
    exact(ZE _ _ _).2 zl
 .rw[bM hb,af]
  grind[vz]
theorem Zzs {x:cy} (h:nh l=some x):ZT x=true:=by
 grind[nh]
theorem ZsO {x:cy} (h:wm img=some x):ZT x=true:=by
 have hr: ∀k y,lP img k=some y->ZT y=true:=λk y h=>by
  unfold lP at h;cases hd:decide (k<img.length/64)with
  |false=>rw[hd]at h;cases h
  |true=>rw[hd]at h;exact Zzs h
 unfold wm at h;cases h0:lP img 0 with
 |none=>cases h1:lP img 1 with
  |none=>rw[h0,h1]at h;cases h
  |some y=>rw[h0,h1]at h;cases h;exact hr _ _ h1
 |some y=>cases h1:lP img 1 with
  |none=>rw[h0,h1]at h;cases h;exact hr _ _ h0
  |some z=>
   rw[h0,h1,show xM (xM none (some y)) (some z)=(bif decide (z.seq>y.seq)then some z else some y)from rfl]at h;grind
theorem ZAk {x:cy} {W:al} {r:ak} (g:16<=x.blocks) (hl:W.length=(x.blocks.toNat+63)/64) (h:DQ x.blocks (dB W) x.aJ r):r=dB (x.aJ.foldl (bN x.blocks.toNat) W):=
 Ga h.1 (yb _) λk=>by
  rw[h.2,pE,pE];constructor
  .rintro(⟨b,rfl,h1⟩|⟨h1,h2,h3⟩)
   .exact⟨b,rfl,(Ak _ hl b).2 (.inl h1)⟩
   .exact⟨k.toNat,AC,(Ak _ hl _).2 Fd⟩
  .rintro⟨b,rfl,h1⟩
   rcases(Ak _ hl b).1 h1 with h1|⟨h1,h2⟩
   .grind
   grind
def aea (st:St) (img:aj) (r:Option (cy×aR)×Int) (o:Out ah×St):Prop:=∃s',aA st s'/\match r with
 |(none,e)=>∃a1 a2 a3 a4 a5 a6 a7 a8 z p n,(z=1\/p=none)/\o=(.val [.agg (dw nX 0 none 0 none 0 none),.agg (Bp a1 a2 a3 a4 a5 a6 a7 a8 z p n),.slice 0 none 0,.i e],s')
 |(some (x,v),_)=>Iq img x v/\∃p2 p3 p4 pc q,o=(.val [.agg (dw (fw x v) 2 p2 1 p3 1 p4),.agg (dq x pc),.slice 1 q (dB (x.aJ.foldl (bN x.blocks.toNat) v.W)).length,.i 0],s')/\jK s' (fw x v) p2 p3 p4/\Sl s' q (ints (dB (x.aJ.foldl (bN x.blocks.toNat) v.W)))
theorem Zp7 (n:Nat) (img:aj) (st:St) (hl:img.length<1000000) (hn:90000<=n):
  Ok (aea st img (mB img)) (run Bd n 345 [.str img] st):=by
 obtain _|n:=n;omega;rw[Ze,h.ahu];unfold Sr jU My ZF JE bu bZ Ls Mw
 try dsimp only
 rw[bT,aq,ZJ];refine Ok.call (Zsa n img st hl AC) ?_;rintro _ ⟨s1,cs,k,b,rfl,aD,hm⟩;refine⟨_,s1,rfl,?_⟩;have⟨R,hR⟩: ∃R,mB img=R:=⟨_,rfl⟩;rw[hR];unfold mB at hR;cases kd:wm img with
 |none=>
  rw[kd]at hm hR;subst hR;obtain⟨⟨z,rfl⟩,rfl⟩:=hm;rw[ZI];unfold H4;simp only[av,Zf 1 z none _ (.inr rfl),au,aq];rw[bp,ae,Zp];exact .mk ⟨_,Zq aD,0,0,0,0,0,0,0,0,1,none,0,.inl rfl,rfl⟩
 |some x=>
  rw[kd]at hm;obtain⟨pc,rfl,rfl,Fc⟩:=hm;have pZ:=ZsO kd;have hx:=(Ai x).1 pZ;have⟨g1,g2,_⟩:=ZR hx.g;have cO:x.aJ.length<1000:=by
   have:=hx.len;rw[UF hx.g]at this;omega
  have Y8:=Zo6 (img:=img) pZ;have La:=ZqV n img x pc s1 hl Fc cO AC;have uG:=λl p s (hp:aA s1 s) h1 h2 h3 h4 h5=>Zon n img x pc l p s (Fc.mono hp) h1 h2 h3 h4 h5 cO hl
  have jj:=λl p s (hp:aA s1 s) h1 h2 h3=>Zsk n x pc l p s (Fc.mono hp) h1 h2 h3 cO
  unfold dq at La uG jj⊢;rw[dY];simp only[av,aV,au,aq];rw[bw,af];refine Ok.call La ?_;rintro o ⟨s2,aU,ho⟩;have iX:=aD.trans aU;rw[kd]at hR;simp only at hR;have ahZ:(vz img x=none/\R=(none,31))\/∃v,Iq img x v/\R=bif Aw img x v.W then(some (x,v),0)else(none,32):=by
   grind
  rcases ahZ with⟨cD,rfl⟩|⟨v,hW,rfl⟩
  .rw[cD]at ho
   simp only at ho;subst ho;refine⟨_,s2,rfl,?_⟩;rw[dY];unfold zz;simp only[av,Zf 2 0 none _ (.inr rfl),Zf 1 0 none _ (.inr rfl),au,aq];rw[bp,ae,Zp];exact .mk ⟨_,Zq iX,x.seq,x.blocks,x.dc,x.g,x.cm,x.used,x.free,x.dir,1,pc,x.aJ.length,.inl rfl,rfl⟩
  .have⟨_,hb,PN,XU,oM,ajO,sz,De,_⟩:=id hW
   rw[PN]at ho;obtain⟨LX,q1,q2,q3,q,rfl,aad,ajC,HG⟩:=ho;refine⟨_,s2,rfl,?_⟩;rw[dY];unfold dw;simp only[av,Zf 2 LX q1 _ aad,aV,au,aq];rw[bw,af];refine Ok.call (uG (dB v.W) q s2 aU HG (yb _) AC (λk hk=>?_) AC AC) ?_
   .obtain⟨b,rfl,hb⟩:=pE.1 hk
    have:=XU b hb;omega
   rintro _ ⟨b2,s3,rfl,cz,dh⟩;refine⟨_,s3,rfl,?_⟩;rw[au,aq];have uD:Aw img x v.W=b2:=by
    rw[lS,dh];exact ZuR hx oM ajO XU hb
   rw[uD];cases b2 with
   |false=>
    rw[bp,ae,af,Zp];exact .mk ⟨_,Zq (iX.trans cz),x.seq,x.blocks,x.dc,x.g,x.cm,x.used,x.free,x.dir,1,pc,x.aJ.length,.inl rfl,rfl⟩
   |true=>
    rw[bw,af,ae];refine Ok.JR (jj (dB v.W) q s3 (aU.trans cz) (HG.mono cz) (yb _) AC AC) ?_;rintro _ ⟨pu,r,s4,rfl,fe,HI,Y7⟩;refine⟨_,s4,rfl,?_⟩;rw[aV,aq,Zp];have xp:=ZAk g1 oM Y7;subst xp;exact .mk ⟨_,Zq ((iX.trans cz).trans fe),hW,q1,q2,q3,pc,pu,rfl,(ajC.pre (cz.trans fe)).dU _,HI.dU _⟩
def oo (x:eR):ak:=(Zr x).map (·.slot)
def vK (x:eR) (i:Nat):Nat:=(List.range i).countP λj:Nat=>decide ((j:Int)∈x.free)
def wT (x:eR) (i:Nat):Nat:=(List.range i).countP λj:Nat=> !decide ((j:Int)∈x.free)&& !decide ((j:Int)∈oo x)
def GH (x:eR) (b:Int):ah:=[.i ((Zr x).length:Nat),.i (x.aK.length:Nat),.i (vK x x.aF.length:Nat),.i (wT x x.aF.length:Nat),.i b]
theorem IH (P:Nat->Bool) (i:Nat):(List.range (i+1)).countP P=(List.range i).countP P+(bif P i then 1 else 0):=by
 rw[qW,List.countP_append];cases h:P i<;>simp[h]
theorem ZxA (P:Nat->Bool) (i:Nat):(List.range i).countP P<=i:=by
 have:=List.countP_le_length (p:=P) (l:=List.range i);rwa [List.length_range]at this
theorem Zqo (n:Nat) (x:eR) (p1 p2 p3:ai) (b:Int) (st:St) (hr:jK st x p1 p2 p3) (sz:BQ x) (hn:60000<=n):
  Ok (λo=>∃s',o=(.val [.agg (GH x b)],s')/\aA st s') (run Bd n 347 [.agg (dw x 2 p1 1 p2 1 p3),.i b] st):=by
 obtain _|n:=n;omega;have h1:=sz.h.len;have he:=sz.e;have h3:=sz.g;have h4:=sz.f;rw[Ze,h.ahw];unfold Sv ZF cW D0 MI az bu Zn ye yq B3 ep Ad Lb
 try dsimp only
 have AY:=Zjj n x 2 1 1 p1 p2 p3 st (.inl rfl) (.inl rfl) (.inl rfl) hr AC he;rw[dY];unfold dw at AY⊢;simp only[av,aV,aq];refine Ok.call AY ?_;rintro _ ⟨q,s1,rfl,aD,dI⟩;refine⟨_,s1,rfl,?_⟩;rw[aV,aq];have dW:=hr.fr.mono aD;refine Ok.join λay mK=>?_
 refine Zj _ (λq y t=>∃(i:Nat),y=[.agg [.i ((Zr x).length:Nat),.i (x.aK.length:Nat),.i (vK x i:Nat),.i (wT x i:Nat),.i b],.i (i:Int)]/\i<=x.aF.length/\x.aF.length-i<=q/\t=s1) ?_ x.aF.length n _ _ ⟨0,rfl,cB _,AC,rfl⟩ AC;rintro q9 y s1 ⟨i,rfl,hi,hq,rfl⟩ rec aL;rw[dY];simp only[av,aq];by_cases aw:i<x.aF.length
 .rw[aX]
  refine Ok.join λaH j7=>?_
  have eE:=ZxA (λj:Nat=>decide ((j:Int)∈x.free)) i;have alA:=ZxA (λj:Nat=> !decide ((j:Int)∈x.free)&& !decide ((j:Int)∈oo x)) i;refine Ok.join λaW kW=>?_
  have fin:Ok (λo=>∃s',o=(.val [.agg (GH x b)],s')/\aA st s') (aW [.bool (decide ((i:Int)∈oo x))] s1):=by
   rw[kW];simp only[au,aq];refine Ok.call (BY n 1 x.free i p3 s1 (.inl rfl) dW) ?_;rintro _ rfl;refine⟨_,s1,rfl,?_⟩;rw[au,aq];have go: ∀a c:Nat,a=vK x (i+1)->c=wT x (i+1)->Ok (λo=>∃s',o=(.val [.agg (GH x b)],s')/\aA st s') (aH [.agg [.i ((Zr x).length:Nat),.i (x.aK.length:Nat),.i (a:Nat),.i (c:Nat),.i b]] s1):=by
    rintro _ _ rfl rfl;rw[j7];simp only[ZI,av,aq];rw[Zc];exact aL (x.aF.length-(i+1)) _ _ AC Fd
   have nl:vK x (i+1)=vK x i+(bif decide ((i:Int)∈x.free)then 1 else 0):=IH _ _;have HH:wT x (i+1)=wT x i+(bif !decide ((i:Int)∈x.free)&& !decide ((i:Int)∈oo x)then 1 else 0):=IH _ _;have cM:ar ((vK x i:Int)+1)=((vK x i+1:Nat):Int):=Zc (by unfold vK;omega) (by unfold vK;omega);have fY:ar ((wT x i:Int)+1)=((wT x i+1:Nat):Int):=Zc (by unfold wT;omega) (by unfold wT;omega);rw[Za];cases hm:decide ((i:Int)∈x.free)with
   |true=>
    rw[hm]at nl HH;rw[ae];simp only[ZI,av,aq];rw[cM];grind
   |false=>
    rw[hm]at nl HH;rw[af,Za];cases hs:decide ((i:Int)∈oo x)with
    |false=>
     rw[hs]at HH;rw[bp,ae];simp only[ZI,av,aq];rw[fY];grind
    |true=>
     rw[hs]at HH;rw[bw,af];simp only[ZI,av,aq];grind
  refine Zj _ (λq y u=>∃(k:Nat),y=[.bool (decide ((i:Int)∈(oo x).take k)),.i (k:Int)]/\k<=(Zr x).length/\(Zr x).length-k<=q/\u=s1) ?_ (Zr x).length n _ _ ⟨0,Do,cB _,AC,rfl⟩ AC;rintro q8 y s1 ⟨k,rfl,hk,hq8,rfl⟩ dC kf;rw[au,av,aq];have hlen:(oo x).length=(Zr x).length:=lB _;by_cases gm:k<(Zr x).length
  .rw[aX]
   refine Ok.join λdA Pa=>?_
   have fM:(oo x).take (k+1)=(oo x).take k++[(Zr x)[k].slot]:=by
    rw[lV AC];simp[oo]
   have go: ∀c,c=decide ((i:Int)∈(oo x).take (k+1))->Ok (λo=>∃s',o=(.val [.agg (GH x b)],s')/\aA st s') (dA [.bool c] s1):=by
    rintro _ rfl;rw[Pa];simp only[au,aq];rw[Zc];exact kf ((Zr x).length-(k+1)) _ _ AC Fd
   cases eX:decide ((i:Int)∈(oo x).take k)with
   |true=>
    rw[ae];grind
   |false=>
    rw[af];obtain⟨i1,o1,rfl⟩:=dI.cF (by rw[Zu];omega);have OY:=Zyl (l:=Zr x) (k:=k) (x:=(Zr x)[k]) Fd (m:=0) AC;have ld: ∀K:DV->M ah,bD i1 (k*4+o1) K s1=K (.i (Zr x)[k].slot) s1:=λK=>by
     have:=dI.get OY K;rwa [gQ]at this
    rw[bc,Zb (Zi gm),br,ld,bj];grind
  grind
 .rw[aZ,mK]
  simp only[ZI,av,aq,Zd];have:i=x.aF.length:=AC
  subst this;exact .mk ⟨_,rfl,aD⟩
theorem ZrG {l:ak} (hn:l.Nodup) (hr: ∀k∈l,0<=k/\k<(n:Int)):(List.range n).countP (λj:Nat=>decide ((j:Int)∈l))=l.length:=by
 rw[List.countP_eq_length_filter];have hA:(((List.range n).filter λj:Nat=>decide ((j:Int)∈l)).map λj:Nat=>(j:Int)).Nodup:=by
  refine List.Pairwise.map _ (λa b h=>?_) (List.nodup_range.filter _);omega
 have hL:=lB (λj:Nat=>(j:Int)) (as:=(List.range n).filter λj:Nat=>decide ((j:Int)∈l));refine Nat.le_antisymm ?_ ?_
 .rw[<-hL]
  refine yp hA λk hk=>?_
  grind
 .rw[<-hL]
  refine yp hn λk hk=>?_
  have:=hr k hk;refine oW.2 ⟨k.toNat,FN.2 ⟨uY.2 AC,aS ?_⟩,AC⟩;rw[Int.toNat_of_nonneg this.1];exact hk
theorem ZrW {x:eR} (hd: ∀k,k∈x.free->k∉oo x): ∀i:Nat,wT x i+vK x i+(List.range i).countP (λj:Nat=>decide ((j:Int)∈oo x))=i
 |0=>rfl
 |i+1=>by
  have ih:=ZrW hd i;have a:vK x (i+1)=_:=IH _ _;have b:wT x (i+1)=_:=IH _ _;have c:=IH (λj:Nat=>decide ((j:Int)∈oo x)) i;have:=hd i;rw[a,b,c];change (List.range i).countP _+(List.range i).countP _+_=i at ih;by_cases h1:(i:Int)∈x.free
  .grind
  grind
theorem Zpa: ∀(l:List dJ) (a:Nat),a+(l.map λh=>h.cg.length).sum<1000000->ym l (a:Int)=((a+(l.map λh=>h.cg.length).sum:Nat):Int)
 |[],a,_=>rfl
 |h::r,a,hb=>by
  rw[oe,List.sum_cons]at hb;unfold ym;rw[BF,Zc,<-DE];have:=Zpa r (a+h.cg.length) AC;grind[ym]
theorem Zzg {x:cy} (h:Iq img x v):GH (fw x v) ((dB (x.aJ.foldl (bN x.blocks.toNat) v.W)).length:Nat)=JG x v:=by
 have⟨hx,hb,_,XU,oM,Y8,sz,De,hm⟩:=h;have⟨g1,g2,_⟩:=ZR hx.g;have⟨n1,n2,n3⟩:=sE.1 hm.nodup;have r1: ∀k∈oo (fw x v),0<=k/\k<((fw x v).aF.length:Int):=λk hk=>hm.range k (List.mem_append_left _ hk)
 have r2: ∀k∈(fw x v).free,0<=k/\k<((fw x v).aF.length:Int):=λk hk=>hm.range k (Ma _ hk)
 have c1:_=(oo (fw x v)).length:=ZrG n1 r1;have c2:vK (fw x v) (fw x v).aF.length=_:=ZrG n2 r2;have c3:=ZrW (x:=fw x v) (λk h1 h2=>n3 k h2 k h1 rfl) (fw x v).aF.length;have hl:(oo (fw x v)).length=(Zr (fw x v)).length:=lB _;have AY:(Zr (fw x v)).length=(v.aK.map λh=>h.cg.length).sum:=by
  show((v.aK.map (·.cg)).flatten).length=_;rw[List.length_flatten,zX];rfl
 have he:=sz.e;have hg:=sz.g;have e1:ym v.aK 0=((Zr (fw x v)).length:Nat):=by
  have:=Zpa v.aK 0 AC;rw[AY];rw[show((0:Nat):Int)=0 from rfl]at this;rw[this,eJ]
 have⟨q1,q2⟩:=ZE x.blocks.toNat x.aJ v.W;have e2:Cn (x.aJ.foldl (bN x.blocks.toNat) v.W)=((dB (x.aJ.foldl (bN x.blocks.toNat) v.W)).length:Nat):=by
  have:=Zo8 (x.aJ.foldl (bN x.blocks.toNat) v.W) 0 0 (q2 Y8) (by rw[q1,oM];omega);unfold Cn dB;rw[show((0:Nat):Int)=0 from rfl,eJ]at this;exact this
 have eE:(fw x v).free=v.free:=rfl;have jx:(fw x v).aF=v.aF:=rfl;have uK:(fw x v).aK=v.aK:=rfl;unfold GH JG;rw[e1,e2,c2,uK,eE];rw[hl]at c1;rw[c1,c2,jx,eE]at c3;rw[jx]at hg⊢;congr 4;rw[Zc (x:=(v.aF.length:Int)-_),Zc];congr 1;omega
theorem ZnX {x:cy} (h:mB img=(some (x,v),e)):e=0/\Iq img x v:=by
 unfold mB at h;cases hp:wm img with
 |none=>rw[hp]at h;cases h
 |some y=>
  rw[hp]at h;have hw:=Zo6 (img:=img) (ZsO hp);grind
theorem Zuu (h:mB img=(none,e)):e≠0:=by
 grind[mB]
theorem adA (s:St):jK s nX none none none:=⟨⟨[],rfl,rfl⟩,rfl,rfl⟩
theorem ZoU (n:Nat) (a:ai) (img:aj) (st:St) (ht:sO st) (ha:c9 st a img) (hl:img.length<262144) (hn:95000<=n):
  Ok (λo=>∃s',o=(.val [.bool true],s')/\aA st s') (run Bd n 339 [.slice 1 a img.length] st):=by
 obtain _|n:=n;omega;rw[Ze,h.ahq];unfold Sa bZ ZF Zhs IY cW oq az bu Ztk Ls ba Lb BS wP
 try dsimp only
 rw[aV,aq];have nP: ∀K:ah->M ah,dx a img.length K st=K (bI img) st:=λK=>by
  have:=iC (show Sl _ a (bI img)from ha) K;rwa [Zs]at this
 rw[nP,<-lH,rf];have⟨R,hR⟩: ∃R,mB img=R:=⟨_,rfl⟩;have La:=Zp7 n img st AC AC;have j5:=λs1 (hp:aA st s1)=>RR n a img s1 (ht.mono hp) (ha.mono hp) hl (λx v e he=>by have:=(ZnX he).2.2.2.2.2.2.2.2.2.Ez;have e:(fw x v).aK=v.aK:=rfl;rw[e]at this;omega)
 have cd:=λs1 (hp:aA st s1)=>ZpZ n a img s1 (ht.mono hp) (ha.mono hp) hl AC
 have jj:=λs1 (hp:aA st s1)=>Zsb n a img s1 (ht.mono hp) (ha.mono hp) hl AC
 rw[hR]at La j5 cd jj;refine Ok.call La ?_;rintro o ⟨s1,aD,ho⟩;have⟨r,e⟩:=R;cases r with
 |none=>
  have he:=Zuu hR;obtain⟨a1,a2,a3,a4,a5,a6,a7,a8,z,p,m,hz,rfl⟩:=ho;refine⟨_,s1,rfl,?_⟩;unfold dw Bp;simp only[ZI,av,Zf 2 0 none _ (.inr rfl),Zf 1 0 none _ (.inr rfl),Zf 1 z p _ hz,aq];refine Ok.call (j5 s1 aD) ?_;rintro o ⟨s2,aU,rfl⟩;refine⟨_,s2,rfl,?_⟩;unfold Wc;simp only[ZI,av,aq];have iX:=aD.trans aU;refine Ok.call (cd s2 iX) ?_;rintro o ⟨s3,cz,rfl⟩;refine⟨_,s3,rfl,?_⟩;have uO:=iX.trans cz;unfold dw;simp only[ZI,av,aV,aq];refine Ok.call (jj s3 uO) ?_;rintro o ⟨s4,fe,rfl⟩;refine⟨_,s4,rfl,?_⟩;have EZ:=uO.trans fe;simp only[av,Zf 1 0 none _ (.inr rfl),aq];have O3:(!(e==e))=false:=by rw[zZ];rfl
  rw[Za,O3,af];simp only[au,aq];rw[Za,af];simp only[au,aq];rw[af,show(!(e==0))=true by rw[eN.2 he];rfl,ae,Za,show((0:Int)==0)=true from rfl];simp only[wC,ae];have PE:=Zl7 n nX nX 2 1 1 none none none 0 0 0 none none none s4 (.inl rfl) (.inl rfl) (.inl rfl) (.inr rfl) (.inr rfl) (.inr rfl) (adA s4) (adA s4) ⟨⟨cB _,(λg hg=>nomatch hg),(λg hg=>nomatch hg)⟩,cB _,cB _,cB _⟩;refine Ok.call PE ?_;rintro _ ⟨b,rfl,hb⟩;refine⟨_,s4,rfl,?_⟩;rw[hb.2 rfl];simp only[au,aq];rw[Za,ae];simp only[au,aq];rw[Zd];exact .mk ⟨s4,rfl,EZ⟩
 |some q=>
  have⟨x,v⟩:=q;obtain⟨rfl,_⟩:=ZnX hR;obtain⟨hW,p2,p3,p4,pc,q,rfl,eY,wc⟩:=ho;have⟨hx,_,_,_,oM,Y8,sz,_,_⟩:=id hW;refine⟨_,s1,rfl,?_⟩;have EK:=λb s (hp:aA s1 s)=>Zqo n (fw x v) p2 p3 p4 b s (eY.pre hp) sz AC
  have lf:=λ(q2 q3 q4:ai) s (hp:aA s1 s) (hh:jK s (fw x v) q2 q3 q4)=>Zl7 n (fw x v) (fw x v) 2 1 1 q2 q3 q4 2 1 1 p2 p3 p4 s (.inl rfl) (.inl rfl) (.inl rfl) (.inl rfl) (.inl rfl) (.inl rfl) hh (eY.pre hp) sz
  unfold dw at EK lf;unfold dw dq;simp only[ZI,av,aV,aq];refine Ok.call (j5 s1 aD) ?_;rintro o ⟨s2,aU,rfl⟩;refine⟨_,s2,rfl,?_⟩;have iX:=aD.trans aU;have pV:=Zzg hW;unfold JG at pV⊢;simp only[ZI,av,aq];refine Ok.call (cd s2 iX) ?_;rintro o ⟨s3,cz,q2,q3,q4,rfl,ajE⟩;refine⟨_,s3,rfl,?_⟩;have uO:=iX.trans cz;unfold dw;simp only[ZI,av,aV,aq];refine Ok.call (jj s3 uO) ?_;rintro o ⟨s4,fe,pu,rfl,hu4⟩;refine⟨_,s4,rfl,?_⟩;have EZ:=uO.trans fe;simp only[av,aV,aq];have O3:(!((0:Int)==0))=false:=rfl;rw[Za,O3,af];simp only[au,aq];rw[Za,af];simp only[au,aq];rw[af,af];refine Ok.cn (EK _ s4 (aU.trans (cz.trans fe))) λs5 kb=>?_
  rw[pV];have ai4:=EZ.trans kb;simp only[ZI,av,aq];simp only[zZ,wC,ae];rw[Za];refine Ok.call (lf q2 q3 q4 s5 (aU.trans (cz.trans (fe.trans kb))) (ajE.pre (fe.trans kb))) ?_;rintro _ ⟨b,rfl,hb⟩;refine⟨_,s5,rfl,?_⟩;rw[hb.2 rfl];simp only[au,aq];rw[Za,ae];have hlen:(dB (x.aJ.foldl (bN x.blocks.toNat) v.W)).length<=50000:=by
   have⟨g1,g2,_⟩:=ZR hx.g;have⟨q1,q2⟩:=ZE x.blocks.toNat x.aJ v.W;have:=SD (x.aJ.foldl (bN x.blocks.toNat) v.W) (x.aJ.foldl (bN x.blocks.toNat) v.W).length;rw[oY,q1,oM]at this;omega
  refine Ok.call (R9 n _ _ pu q s5 (hu4.mono kb) (wc.mono (aU.trans (cz.trans (fe.trans kb)))) AC hlen) ?_;rintro _ rfl;refine⟨_,s5,rfl,?_⟩;rw[aS rfl];simp only[au,aq];rw[Zd];exact .mk ⟨s5,rfl,ai4⟩
end Go.Gv.F
