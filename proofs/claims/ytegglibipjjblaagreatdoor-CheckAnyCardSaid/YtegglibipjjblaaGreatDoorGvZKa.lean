/- A block's superblock, and the one that counts: the document's. -/
import Derived.Test.YtegglibipjjblaaGreatDoorGvZCa
import Derived.Test.YtegglibipjjblaaGreatDoorGvZMj
import Derived.Test.YtegglibipjjblaaGreatDoorGvMOk3
set_option linter.all false
namespace Go.Gv.F
open Go.Gv
set_option maxHeartbeats 4000000
variable {e:Int} {n t:Nat} {v:aS} {img l:aj}
theorem Zx9 {b:aj} (h:b.length=56) (ht:t<=8):PI (jD b t)=b.take (32+2*t):=by
 unfold PI jD;simp only;rw[pX,pX,pX,pX,pX,pX,pX,pX,H7 t (by omega),dK];have e1:b.take 8++(b.drop 8).take 4=b.take 12:=by rw[<-nc]
 have e2:b.take 12++(b.drop 12).take 4=b.take 16:=by rw[<-nc]
 have e3:b.take 16++(b.drop 16).take 4=b.take 20:=by rw[<-nc]
 have e4:b.take 20++(b.drop 20).take 4=b.take 24:=by rw[<-nc]
 have e5:b.take 24++(b.drop 24).take 4=b.take 28:=by rw[<-nc]
 have e6:b.take 28++(b.drop 28).take 2=b.take 30:=by rw[<-nc]
 have e7:b.take 30++(b.drop 30).take 2=b.take 32:=by rw[<-nc]
 rw[e1,e2,e3,e4,e5,e6,e7,<-nc]
theorem Zw4 {b:aj} (ho:fM l=some (7,t,b)) (ht:t<=8):mU l=(bif ZU (jD b t)&&xQ (jD b t)==l then some (jD b t)else none):=by
 have⟨h1,h2,h3,h4⟩:=sd ho;have key:(xQ (jD b t)==l)=ZE (b.drop (32+2*t)):=by
  have fY:(jD b t).aJ.length=t:=Ik b t;unfold xQ;rw[Zx9 h2 ht,fY,lE,uA]
  conv=>lhs;rhs;rw[h1]
  have:=FW (k:=7) (t:=t) (k':=7) (t':=t) (b:=b.take (32+2*t)) (b':=b) (by omega) (by omega) h4 (by omega) (by omega) h4 (by rw[cX];omega);rw[show((7:Nat):Int)=7 from rfl]at this;rw[show((7:Nat):Int)=7 from rfl,this,Io h2,Im h2];simp
 grind[mU]
variable {Bd:Zh} [h:HA Bd]
theorem Zsd (n:Nat) (p:ai) (l:aj) (st:St) (hs:dc st p l) (hl:l.length=64) (hn:6000<=n):
  Ok (tw st (mU l)) (run Bd n 350 [.s 1 p 64] st):=by
 obtain _|n:=n;omega;rw[Ze,h.agL];unfold Tm bV uV aA cw HW bq jw LR lY aZ vZ Ls ZX Br Lb Li HY
 try dsimp only
 rw[aX,aq,ZM];refine Ok.cv (FD n p l st hs hl) λs1 aH=>?_
 have eX:=hs.mono aH;have bad: ∀s',aB st s'->mU l=none->Ok (tw st (mU l)) ((bZ st.length [.a qO,.b false]:M ah) s'):=λs' hp hg=>by
  rw[Zp,hg];exact .mk ⟨_,Zr hp,0,rfl⟩
 unfold yT;cases ho:fM l with
 |none=>
  simp only[av,bR,au,aq];rw[Za,bn,ae];simp only[au,aq];rw[Za,ae];simp only[au,aq];rw[ae];exact bad s1 aH (by unfold mU;rw[ho])
 |some q=>
  have⟨k,t,b⟩:=q;have⟨_,hb,_,ht⟩:=sd ho;simp only[av,bR,au,aq];rw[Za,bu,af,nl k 7 7 rfl];simp only[au,aq];rw[Za];by_cases hk:k=7
  .subst hk
   rw[ax rfl,bu,af];simp only[au,aq];by_cases Ez:t<=8
   .rw[aF (show ¬(t:Int)>8 by omega),af]
    have cI:=Zw4 ho Ez;have rn: ∀(a c:Nat),c<=8->run Bd n 292 [.t ((b.take (a+c)).drop a)] s1=some (.val [.i (bN b a c)],s1):=λa c hc=>by
     rw[xB n _ s1 (zQ hc),zU]
    have r0:run Bd n 292 [.t (b.take 8)] s1=some (.val [.i (bN b 0 8)],s1):=by
     have:=rn 0 8 (by omega);rwa [dK]at this
    rw[Zb (ax (by omega)),Zk r0];rw[av,aq];rw[Zb (ax (by omega)),Zk (rn 8 4 (by omega))];rw[av,aq];rw[Zb (ax (by omega)),Zk (rn 12 4 (by omega))];rw[av,aq];rw[Zb (ax (by omega)),Zk (rn 16 4 (by omega))];rw[av,aq];rw[Zb (ax (by omega)),Zk (rn 20 4 (by omega))];rw[av,aq];rw[Zb (ax (by omega)),Zk (rn 24 4 (by omega))];rw[av,aq];rw[Zb (ax (by omega)),Zk (rn 28 2 (by omega))];rw[av,aq];rw[Zb (ax (by omega)),Zk (rn 30 2 (by omega))];rw[av,aq];refine Ok.join λaW kL=>?_
    refine Zi _ (λq y s=>∃(i z:Nat) (pk:ai),y=[.a (CY b z pk i),.i i]/\(z=1\/pk=none)/\i<=t/\t-i<=q/\bm st s pk (ints (zY b i))/\dc s p l) ?_ t n _ _ ⟨0,0,none,rfl,.inr rfl,by omega,by omega,.nil aH,eX⟩ (by omega);rintro q _ s ⟨i,z,pk,rfl,hz,hi,hq,gq,vj⟩ rec aN;rw[dT];unfold CY;simp only[av,Zg 1 z pk _ hz,aq];have fY:=Ik b i;have jU:(ints (zY b i)).length=i*1:=by rw[Zq5];omega
    by_cases aw:i<t
    .have cG:ar ((i:Int)+1)=((i+1:Nat):Int):=Zc
     have jB:ar (2*(i:Int))=((2*i:Nat):Int):=Zc;have j5:ar (34+((2*i:Nat):Int))=((32+2*i+2:Nat):Int):=by rw[Zc];omega
     have pC:ar (32+((2*i:Nat):Int))=((32+2*i:Nat):Int):=by rw[Zc];omega
     simp only[cG,jB,j5,pC,bp];rw[ax (show(i:Int)<(t:Int) by omega),ae];rw[Zb (by rw[aY,br,br];omega),Zb (by rw[aY,br,br];omega)];rw[v8 (xB n _ s (zQ (a:=32+2*i))),zU];rw[av,aq];have⟨q2,s2,du,vl⟩:=gq.push (β:=ah) (sz:=1) (n:=i) (lim:=8796093022208) [.i (bN b (32+2*i) 2)] (by omega) jU rfl (by omega);rw[vl];refine aN (t-(i+1)) _ _ (by omega) ⟨i+1,1,q2,rfl,.inl rfl,by omega,aO _,?_,?_⟩
     .rw[Zmq,ZqZ]
      exact du
     .exact hs.mono du.1
    .rw[aF (show ¬(i:Int)<(t:Int) by omega),af]
     have AF:i=t:=by omega
     subst AF;subst kL;show Ok _ (ba [DV.a _] _ s);rw[dT];simp only[av,aX,aq];have dA:Sl s pk (ints (jD b i).aJ):=gq.sl;have ot:(jD b i).aJ.length=i:=fY;have ny:([.i (bN b 0 8),.i (bN b 8 4),.i (bN b 12 4),.i (bN b 16 4),.i (bN b 28 2),.i (bN b 20 4),.i (bN b 24 4),.i (bN b 30 2),.s 1 pk i]:ah)=dj (jD b i) pk:=by
      unfold dj;rw[ot];rfl
     rw[ny];refine Ok.cv (Q7 n (jD b i) pk s dA) λs2 aU=>?_
     rw[au,aq];rw[Za];cases hr:ZU (jD b i)with
     |false=>
      rw[hr,gf,af]at cI;rw[bn,ae];simp only[au,aq];rw[ae];exact bad s2 (gq.1.trans aU) cI
     |true=>
      rw[hr,dF]at cI;rw[bu,af];refine Ok.cx (ZmT n (jD b i) pk s2 (dA.mono aU)) λs3 cu=>?_
      rw[bR,aq];have rl: ∀(K:ah->M ah),dy p 64 K s3=K (bU l) s3:=λK=>by
       have:=iR (show Sl _ _ (bU l)from(vj.mono aU).mono cu) K;rwa [Zu,hl]at this
      rw[rl,<-lr,oJ];simp only[au,aq];have X1:=(gq.mono aU).mono cu;cases cL:(xQ (jD b i)==l)with
      |false=>
       rw[cL]at cI;rw[bn,ae];exact bad s3 X1.1 cI
      |true=>
       rw[cL,ae]at cI;rw[bu,af,Zp,cI];exact .mk ⟨_,Zr X1.1,pk,rfl,X1.fz.1⟩
   .rw[ax (show(t:Int)>8 by omega),ae]
    refine bad s1 aH ?_;grind[mU]
  .rw[aF hk,bn,ae]
   simp only[au,aq];rw[ae];refine bad s1 aH ?_;grind[mU]
theorem pR.dQ {st s:St} {r:Option cy} {cs:ah} {b:Bool} (h:pR s r cs b):pR (Z1 st.length s) r cs b:=by
 cases r with
 |none=>exact h
 |some x=>have⟨p,h1,h2,h3⟩:=h;exact⟨p,h1,h2,h3.dQ _⟩
theorem Znn (n:Nat) (img:aj) (k:Nat) (st:St) (hl:img.length<1000000) (hk:k<2:=by omega) (hn:6001<=n:=by omega):
  Ok (tw st (lA img k)) (run Bd n 349 [.t img,.i k] st):=by
 obtain _|n:=n;omega;rw[Ze,h.agK];unfold Us nU aA zL vZ aZ Br Lb lA;simp only[bR,av,aq,ZM,Za];have hw:ar (((64*k:Nat):Int)+64)=((64*k+64:Nat):Int):=by rw[Zc];omega
 have yH:ar (64*(k:Int))=((64*k:Nat):Int):=by rw[Zc];omega
 rw[aF (show ¬(k:Int)<0 by omega),af,aF (show ¬(k:Int)>1 by omega)];simp only[au,aq,af];simp only[yH,hw,bp];by_cases aw:k<img.length/64
 .rw[ax aw,ae,aF (show ¬(img.length:Int)<((64*k+64:Nat):Int) by omega)]
  rw[af,Zb (by rw[aY,br,br];omega),Zb (by rw[aY,br,br];omega),Zz];have hc:(img.take (64*k+64)).drop (64*k)=pD img k:=by
   grind[pD]
  have gp:(pD img k).length=64:=by grind
  rw[hc,gp];have hb:dc (st++[some ⟨false,ZQ (pD img k)⟩]) (some (st.length,0)) (pD img k):=⟨false,ZQ (pD img k),by simp,Nat.le_of_eq (by rw[eO,lr]),by rw[dK,lr,rU]⟩;refine Ok.call (Zsd n _ _ _ hb gp (by omega)) ?_;intro o ho;obtain⟨s1,cs,b,rfl,aH,hm⟩:=ho.out;refine⟨_,s1,rfl,?_⟩;obtain⟨a1,a2,a3,a4,a5,a6,a7,a8,z,p,m,rfl,hz,_,mo⟩:=hm.nine;rw[ZN];unfold AT;simp only[av,Zg 1 z p _ hz,au,aq];rw[Zp];have hp:aB st (Z1 st.length s1):=Zr ((aB.new _ _).trans aH);have fw:=mo.dQ (st:=st);cases hg:mU (pD img k)with
  |none=>
   rw[hg]at fw;obtain⟨⟨z',e⟩,rfl⟩:=fw;exact .mk ⟨_,hp,z',by rw[<-e];rfl⟩
  |some x=>
   rw[hg]at fw;obtain⟨q,e,rfl,hs⟩:=fw;exact .mk ⟨_,hp,q,by rw[<-e];rfl,hs⟩
 .rw[aF aw,af,ax (show(img.length:Int)<((64*k+64:Nat):Int) by omega)]
  rw[ae,Zp];exact .mk ⟨_,Zr (.refl _),0,rfl⟩
theorem ZrI (n:Nat) (img:aj) (st:St) (hl:img.length<1000000) (hn:6010<=n):
  Ok (Qe st (vH img)) (run Bd n 348 [.t img] st):=by
 obtain _|n:=n;omega;rw[Ze,h.agJ];unfold SG jK zL aA eI Bq Lb
 try dsimp only
 rw[bR,aq,ZM];refine Ok.call (Znn n img 0 st hl) ?_;intro o ho;obtain⟨s1,cs,b,rfl,aH,hm⟩:=ho.out;refine⟨_,s1,rfl,?_⟩;obtain⟨a1,a2,a3,a4,a5,a6,a7,a8,z,p,m,rfl,hz,Hc,mo⟩:=hm.nine;rw[ZN];unfold AT;simp only[av,Zg 1 z p _ hz,au,aq];refine Ok.call (Znn n img 1 s1 hl) ?_;intro o ho;obtain⟨s2,cC,b2,rfl,aU,fw⟩:=ho.out;refine⟨_,s2,rfl,?_⟩;obtain⟨c1,c2,c3,c4,c5,c6,c7,c8,z2,p2,m2,rfl,gS,Yh,sL⟩:=fw.nine;rw[ZN];unfold AT;simp only[av,Zg 1 z2 p2 _ gS,au,aq];have iP:=aH.trans aU;have e1:=mo.b;have e2:=sL.b;have AI:=(mo.mono aU).dQ (st:=st);have OC:=sL.dQ (st:=st);unfold vH;have⟨ra,hra⟩: ∃r,lA img 0=r:=⟨_,rfl⟩;have⟨rb,hrb⟩: ∃r,lA img 1=r:=⟨_,rfl⟩;rw[hra]at e1 AI Hc⊢;rw[hrb]at e2 OC Yh⊢;rw[Za];cases rb with
 |none=>
  subst e2;rw[show Option.isSome (none:Option cy)=false from rfl,af];simp only[au,aq];rw[af,Zp];refine .mk ⟨_,_,_,_,rfl,Zr iP,?_⟩;cases ra<;>exact AI
 |some y=>
  subst e2;rw[show Option.isSome (some y)=true from rfl,ae,Za];cases ra with
  |none=>
   subst e1;rw[show(!Option.isSome (none:Option cy))=true from rfl,ae];simp only[au,aq];rw[ae,Zp];exact .mk ⟨_,_,_,_,rfl,Zr iP,OC⟩
  |some x=>
   subst e1;rw[show(!Option.isSome (some x))=false from rfl,af,Hc x rfl,Yh y rfl];simp only[au,aq];rw[show xj (xj none (some x)) (some y)=(bif decide (y.seq>x.seq)then some y else some x)from rfl];cases hd:decide (y.seq>x.seq)with
   |true=>
    rw[ae,ae,Zp];rw[Yh y rfl]at OC;exact .mk ⟨_,_,_,_,rfl,Zr iP,OC⟩
   |false=>
    rw[af,af,Zp];rw[Hc x rfl]at AI;exact .mk ⟨_,_,_,_,rfl,Zr iP,AI⟩
theorem ZrY (n:Nat) (x:cy) (pc:ai) (l:ak) (p:ai) (st:St) (hc:Sl st pc (ints x.aJ)) (hs:Sl st p (ints l)) (hr:kC l) (hl:l.length<50000) (cL:x.aJ.length<1000) (hn:l.length+x.aJ.length+1000<=n):
  Ok (λo=>∃p r s',o=(.val [.s 1 p r.length],s')/\aB st s'/\Sl s' p (ints r)/\Dp x.blocks l x.aJ r) (run Bd n 344 [.a (dj x pc),.s 1 p l.length] st):=by
 obtain _|n:=n;omega;rw[Ze,h.agF];unfold Sv Z6 bV fB kd Zn iL aZ Z7 dY
 try dsimp only
 rw[dT];unfold dj;simp only[av,aX,aq,ZM];refine Ok.join λaz nB=>?_
 refine Zi _ (λq y t=>∃(i:Nat) (r:ak) (p':ai),y=[.s 1 p' r.length,.i (i:Int)]/\i<=x.aJ.length/\x.aJ.length-i<=q/\aB st t/\Sl t p' (ints r)/\kC r/\r.length<=l.length+i/\∀k,k∈r↔k∈l\/(k∈x.aJ.take i/\0<=k/\k<x.blocks)) ?_ x.aJ.length n _ _ ⟨0,l,p,rfl,cz _,by omega,.refl _,hs,hr,by omega,λk=>by simp⟩ (by omega);rintro q y t ⟨i,r,p',rfl,hi,hq,hp,hf,G8,CC,iO⟩ rec aN;rw[aX,av,aq];by_cases aw:i<x.aJ.length
 .obtain⟨i1,o1,rfl⟩:=hc.cH (by simp[ints];omega)
  have da:(ints x.aJ)[i]? =some (.i x.aJ[i]):=ZD aw;have fZ:x.aJ.take (i+1)=x.aJ.take i++[x.aJ[i]]:=lX aw;rw[ax (show(i:Int)<(x.aJ.length:Int) by omega),ae,bd,Zb (Zj aw)];rw[bp];rw[(hc.mono hp).dJ da];rw[bg];generalize x.aJ[i]=w at da fZ;refine Ok.call (SY n r 1 p' x.blocks w t (.inl rfl) hf G8) ?_;rintro _ ⟨p2,r2,s2,rfl,aU,mW,ij,fw⟩;refine⟨_,s2,rfl,?_⟩;rw[aX,aq];rw[Zc];refine aN (x.aJ.length-(i+1)) _ _ (by omega) ⟨i+1,r2,p2,rfl,by omega,aO _,hp.trans aU,mW,ij,?_,λk=>?_⟩
  .have:r2.length<=(w::r).length:=xL ij.nodup λk hk=>by
    grind
   rw[cO]at this;omega
  grind
 .rw[aF (show ¬(i:Int)<(x.aJ.length:Int) by omega),af,nB]
  rw[dG (by omega)]at iO;simp only[aX,aq];rw[Zp];exact .mk ⟨p',r,_,rfl,Zr hp,hf.dQ _,G8,iO⟩
def ZAi (st:St) (r:Option (cy×aS)×Int) (o:Out ah×St):Prop:=∃s',aB st s'/\match r with
 |(none,e)=>o=(.val [.a (dE nL 2 none 1 none 1 none),.i e],s')
 |(some (x,v),_)=>∃p2 p3 p4,o=(.val [.a (dE (fh x v) 2 p2 1 p3 1 p4),.i 0],s')/\lh s' (fh x v) p2 p3 p4
theorem ZpW (n:Nat) (a:ai) (img:aj) (st:St) (ht:sc st) (ha:dc st a img) (hl:img.length<262144) (hn:50001<=n):
  Ok (ZAi st (mb img)) (run Bd n 341 [.s 1 a img.length] st):=by
 obtain _|n:=n;omega;rw[Ze,h.agE];unfold RD bV xC aZ Bp
 try dsimp only
 rw[aX,aq,ZM];refine Ok.call (Rp n a img st ht ha hl) ?_;rintro o ⟨s1,aH,ho⟩;have⟨R,hR⟩: ∃R,mb img=R:=⟨_,rfl⟩;rw[hR]at ho⊢;have⟨r,e⟩:=R;cases r with
 |none=>
  simp only at ho;obtain⟨rfl,he⟩:=ho;refine⟨_,s1,rfl,?_⟩;rw[ZN];unfold dE;simp only[av,Zg 2 0 none _ (.inr rfl),Zg 1 0 none _ (.inr rfl),eH,aq];rw[Zp];exact .mk ⟨_,Zr aH,rfl⟩
 |some q=>
  have⟨x,v⟩:=q;simp only at ho;obtain⟨z2,p2,z3,p3,z4,p4,i,j,rfl,gS,mB,wX,cg,dh⟩:=ho;refine⟨_,s1,rfl,?_⟩;rw[ZN];unfold dE;simp only[av,Zg 2 z2 p2 _ gS,Zg 1 z3 p3 _ mB,Zg 1 z4 p4 _ wX,eH,aq];rw[Zp];exact .mk ⟨_,Zr aH,p2,p3,p4,rfl,cg.dQ _⟩
def adt (st:St) (r:Option (cy×aS)×Int) (o:Out ah×St):Prop:=∃s',aB st s'/\match r with
 |(none,e)=>o=(.val [.s 0 none 0,.i e],s')
 |(some (x,v),_)=>∃p,o=(.val [.s 1 p (dq (x.aJ.foldl (bK x.blocks.toNat) v.W)).length,.i 0],s')/\Sl s' p (ints (dq (x.aJ.foldl (bK x.blocks.toNat) v.W)))
theorem ZrD (n:Nat) (a:ai) (img:aj) (st:St) (ht:sc st) (ha:dc st a img) (hl:img.length<262144) (hn:50001<=n):
  Ok (adt st (mb img)) (run Bd n 346 [.s 1 a img.length] st):=by
 obtain _|n:=n;omega;rw[Ze,h.agH];unfold SM bV xC iL aZ iw Lp dY
 try dsimp only
 rw[aX,aq,ZM];refine Ok.call (Rp n a img st ht ha hl) ?_;rintro o ⟨s1,aH,ho⟩;have⟨R,hR⟩: ∃R,mb img=R:=⟨_,rfl⟩;rw[hR]at ho⊢;have⟨r,e⟩:=R;cases r with
 |none=>
  simp only at ho;obtain⟨rfl,he⟩:=ho;refine⟨_,s1,rfl,?_⟩;rw[ZN];unfold dE;simp only[av,Zg 2 0 none _ (.inr rfl),Zg 1 0 none _ (.inr rfl),eH,aq];rw[show(!(e==0))=true by rw[eG.2 he];rfl,ae,Zp];exact .mk ⟨_,Zr aH,rfl⟩
 |some q=>
  have⟨x,v⟩:=q;simp only at ho;obtain⟨z2,p2,z3,p3,z4,p4,i,j,rfl,gS,mB,wX,cg,dh⟩:=ho;refine⟨_,s1,rfl,?_⟩;rw[ZN];unfold dE;simp only[av,Zg 2 z2 p2 _ gS,Zg 1 z3 p3 _ mB,Zg 1 z4 p4 _ wX,eH,aq];rw[show(!((0:Int)==0))=false from rfl,af];refine Ok.call (ZmK (acV) n s1 (ht.mono aH) dh) ?_;rintro _ ⟨pl,s2,rfl,aU,dA,_⟩;refine⟨_,s2,rfl,?_⟩;rw[aX,aq];rw[Zp];exact .mk ⟨_,Zr (aH.trans aU),pl,rfl,dA.dQ _⟩
def HQ (img:aj) (x:cy) (v:aS):Prop:=uJ x/\x.blocks<=((img.length/64:Nat):Int)/\uW img x=some (fh x v,dq v.W)/\(∀b,di v.W b=true->b<x.blocks.toNat)/\v.W.length=(x.blocks.toNat+63)/64/\(∀w∈v.W,w<18446744073709551616)/\Dn (fh x v)/\(dq v.W).length<5000/\sa (fh x v)
theorem Zoo {x:cy} (pB:ZU x=true):match rL (qu img x)with
  |some (some v)=>HQ img x v
  |_=>uW img x=none:=by
 have hx:=(BC x).1 pB;have⟨g1,g2,_⟩:=Z4 hx.g;unfold rL;rw[show(qu img x).sup=x from rfl,show(qu img x).img=img from rfl,pB,ae];by_cases hb:x.blocks<=((img.length/64:Nat):Int)
 .rw[ax hb,ae]
  have O8:=ZxO (K:=qu img x) (img:=img) (x:=x) rfl rfl rfl hx hb;cases hw:tf (qu img x)with
  |none=>rw[hw]at O8;exact O8
  |some v=>
   rw[hw]at O8;have⟨O7,all,dt⟩:=O8;have⟨sz,CC⟩:=ZyJ hx O7;have vw:(jd x.blocks.toNat [0,1]).length=(x.blocks.toNat+63)/64:=by unfold jd;rw[(ZF _ _ _).1,oF]
   have yH: ∀w∈jd x.blocks.toNat [0,1],w<18446744073709551616:=by
    unfold jd;exact(ZF _ _ _).2 λw hw=>by rw[List.mem_replicate]at hw;omega
   refine⟨hx,hb,O7,λb hb=>?_,?_,?_,sz,CC,(ZxL (K:=qu img x) pB (by show x.blocks=(x.blocks.toNat:Int);omega) hw).may⟩
   .rw[dt,zM all vw,wc]at hb
    omega
   .rw[dt,(ZF _ _ _).1,vw]
   .rw[dt]
    exact(ZF _ _ _).2 yH
 .rw[aF hb,af]
  grind[uW]
theorem Zy5 {x:cy} (h:mU l=some x):ZU x=true:=by
 grind[mU]
theorem ZsY {x:cy} (h:vH img=some x):ZU x=true:=by
 have hr: ∀k y,lA img k=some y->ZU y=true:=λk y h=>by
  unfold lA at h;cases hd:decide (k<img.length/64)with
  |false=>rw[hd]at h;cases h
  |true=>rw[hd]at h;exact Zy5 h
 unfold vH at h;cases h0:lA img 0 with
 |none=>cases h1:lA img 1 with
  |none=>rw[h0,h1]at h;cases h
  |some y=>rw[h0,h1]at h;cases h;exact hr _ _ h1
 |some y=>cases h1:lA img 1 with
  |none=>rw[h0,h1]at h;cases h;exact hr _ _ h0
  |some z=>
   rw[h0,h1]at h;rw[show xj (xj none (some y)) (some z)=(bif decide (z.seq>y.seq)then some z else some y)from rfl]at h;grind
theorem ZzJ {x:cy} {W:al} {r:ak} (g:16<=x.blocks) (hl:W.length=(x.blocks.toNat+63)/64) (h:Dp x.blocks (dq W) x.aJ r):r=dq (x.aJ.foldl (bK x.blocks.toNat) W):=
 FF h.1 (xA _) λk=>by
  rw[h.2,oO,oO];constructor
  .rintro(⟨b,rfl,h1⟩|⟨h1,h2,h3⟩)
   .exact⟨b,rfl,(zM _ hl b).2 (.inl h1)⟩
   .exact⟨k.toNat,by omega,(zM _ hl _).2 (by grind)⟩
  .rintro⟨b,rfl,h1⟩
   rcases(zM _ hl b).1 h1 with h1|⟨h1,h2⟩
   .grind
   grind
def adq (st:St) (img:aj) (r:Option (cy×aS)×Int) (o:Out ah×St):Prop:=∃s',aB st s'/\match r with
 |(none,e)=>∃a1 a2 a3 a4 a5 a6 a7 a8 z p n,(z=1\/p=none)/\o=(.val [.a (dE nL 0 none 0 none 0 none),.a (AT a1 a2 a3 a4 a5 a6 a7 a8 z p n),.s 0 none 0,.i e],s')
 |(some (x,v),_)=>HQ img x v/\∃p2 p3 p4 pc q,o=(.val [.a (dE (fh x v) 2 p2 1 p3 1 p4),.a (dj x pc),.s 1 q (dq (x.aJ.foldl (bK x.blocks.toNat) v.W)).length,.i 0],s')/\lh s' (fh x v) p2 p3 p4/\Sl s' q (ints (dq (x.aJ.foldl (bK x.blocks.toNat) v.W)))
theorem Zpz (n:Nat) (img:aj) (st:St) (hl:img.length<1000000) (hn:90000<=n):
  Ok (adq st img (mb img)) (run Bd n 345 [.t img] st):=by
 obtain _|n:=n;omega;rw[Ze,h.agG];unfold RV jK LQ Zx I4 bq bV Ls LP
 try dsimp only
 rw[bR,aq,ZM];refine Ok.call (ZrI n img st hl (by omega)) ?_;rintro _ ⟨s1,cs,k,b,rfl,aH,hm⟩;refine⟨_,s1,rfl,?_⟩;have⟨R,hR⟩: ∃R,mb img=R:=⟨_,rfl⟩;rw[hR];unfold mb at hR;cases j1:vH img with
 |none=>
  rw[j1]at hm hR;subst hR;obtain⟨⟨z,rfl⟩,rfl⟩:=hm;rw[ZN];unfold Hy;simp only[av,Zg 1 z none _ (.inr rfl),au,aq];rw[bn,ae,Zp];exact .mk ⟨_,Zr aH,0,0,0,0,0,0,0,0,1,none,0,.inl rfl,rfl⟩
 |some x=>
  rw[j1]at hm;obtain⟨pc,rfl,rfl,Ey⟩:=hm;have pB:=ZsY j1;have hx:=(BC x).1 pB;have⟨g1,g2,_⟩:=Z4 hx.g;have cL:x.aJ.length<1000:=by
   have:=hx.len;rw[TA hx.g]at this;omega
  have Yr:=Zoo (img:=img) pB;have Ky:=Zqo n img x pc s1 hl Ey cL (by omega);have tX:=λl p s (hp:aB s1 s) h1 h2 h3 h4 h5=>Zoh n img x pc l p s (Ey.mono hp) h1 h2 h3 h4 h5 cL hl
  have jc:=λl p s (hp:aB s1 s) h1 h2 h3=>ZrY n x pc l p s (Ey.mono hp) h1 h2 h3 cL
  unfold dj at Ky tX jc⊢;rw[dT];simp only[av,aX,au,aq];rw[bu,af];refine Ok.call Ky ?_;rintro o ⟨s2,aU,ho⟩;have iP:=aH.trans aU;rw[j1]at hR;simp only at hR;have ag8:(uW img x=none/\R=(none,31))\/∃v,HQ img x v/\R=bif zR img x v.W then(some (x,v),0)else(none,32):=by
   grind
  rcases ag8 with⟨cA,rfl⟩|⟨v,hW,rfl⟩
  .rw[cA]at ho
   simp only at ho;subst ho;refine⟨_,s2,rfl,?_⟩;rw[dT];unfold zz;simp only[av,Zg 2 0 none _ (.inr rfl),Zg 1 0 none _ (.inr rfl),au,aq];rw[bn,ae,Zp];exact .mk ⟨_,Zr iP,x.seq,x.blocks,x.de,x.g,x.cc,x.used,x.free,x.dir,1,pc,x.aJ.length,.inl rfl,rfl⟩
  .have⟨_,hb,O7,Xc,ox,aiX,sz,CC,_⟩:=id hW
   rw[O7]at ho;obtain⟨Lh,q1,q2,q3,q,rfl,Yw,aiL,Hc⟩:=ho;refine⟨_,s2,rfl,?_⟩;rw[dT];unfold dE;simp only[av,Zg 2 Lh q1 _ Yw,aX,au,aq];rw[bu,af];refine Ok.call (tX (dq v.W) q s2 aU Hc (xA _) (by omega) (λk hk=>?_) (by omega) (by omega)) ?_
   .obtain⟨b,rfl,hb⟩:=oO.1 hk
    have:=Xc b hb;omega
   rintro _ ⟨b2,s3,rfl,cu,c9⟩;refine⟨_,s3,rfl,?_⟩;rw[au,aq];have tU:zR img x v.W=b2:=by
    rw[lE,c9];exact Zuo hx ox aiX Xc hb
   rw[tU];cases b2 with
   |false=>
    rw[bn,ae,af,Zp];exact .mk ⟨_,Zr (iP.trans cu),x.seq,x.blocks,x.de,x.g,x.cc,x.used,x.free,x.dir,1,pc,x.aJ.length,.inl rfl,rfl⟩
   |true=>
    rw[bu,af,ae];refine Ok.NP (jc (dq v.W) q s3 (aU.trans cu) (Hc.mono cu) (xA _) (by omega) (by omega)) ?_;rintro _ ⟨pu,r,s4,rfl,fy,He,Yq⟩;refine⟨_,s4,rfl,?_⟩;rw[aX,aq];rw[Zp];have wS:=ZzJ g1 ox Yq;subst wS;exact .mk ⟨_,Zr ((iP.trans cu).trans fy),hW,q1,q2,q3,pc,pu,rfl,(aiL.pre (cu.trans fy)).dQ _,He.dQ _⟩
def nZ (x:fJ):ak:=(Zq x).map (·.slot)
def vh (x:fJ) (i:Nat):Nat:=(List.range i).countP λj:Nat=>decide ((j:Int)∈x.free)
def wq (x:fJ) (i:Nat):Nat:=(List.range i).countP λj:Nat=> !decide ((j:Int)∈x.free)&& !decide ((j:Int)∈nZ x)
def F8 (x:fJ) (b:Int):ah:=[.i ((Zq x).length:Nat),.i (x.aM.length:Nat),.i (vh x x.aK.length:Nat),.i (wq x x.aK.length:Nat),.i b]
theorem Ie (P:Nat->Bool) (i:Nat):(List.range (i+1)).countP P=(List.range i).countP P+(bif P i then 1 else 0):=by
 rw[qy,List.countP_append];cases h:P i<;>simp[h]
theorem Zwb (P:Nat->Bool) (i:Nat):(List.range i).countP P<=i:=by
 have:=List.countP_le_length (p:=P) (l:=List.range i);rwa [List.length_range]at this
theorem ZqC (n:Nat) (x:fJ) (p1 p2 p3:ai) (b:Int) (st:St) (hr:lh st x p1 p2 p3) (sz:Dn x) (hn:60000<=n):
  Ok (λo=>∃s',o=(.val [.a (F8 x b)],s')/\aB st s') (run Bd n 347 [.a (dE x 2 p1 1 p2 1 p3),.i b] st):=by
 obtain _|n:=n;omega;have h1:=sz.h.len;have he:=sz.e;have h3:=sz.g;have h4:=sz.f;rw[Ze,h.agI];unfold RW Zx cP DB Mb aA bq Zn Bs xM BA dY zH Lb
 try dsimp only
 have Az:=Ziu n x 2 1 1 p1 p2 p3 st (.inl rfl) (.inl rfl) (.inl rfl) hr (by omega) he;rw[dT];unfold dE at Az⊢;simp only[av,aX,aq];refine Ok.call Az ?_;rintro _ ⟨q,s1,rfl,aH,dA⟩;refine⟨_,s1,rfl,?_⟩;rw[aX,aq];have dS:=hr.fr.mono aH;refine Ok.join λaz nB=>?_
 refine Zi _ (λq y t=>∃(i:Nat),y=[.a [.i ((Zq x).length:Nat),.i (x.aM.length:Nat),.i (vh x i:Nat),.i (wq x i:Nat),.i b],.i (i:Int)]/\i<=x.aK.length/\x.aK.length-i<=q/\t=s1) ?_ x.aK.length n _ _ ⟨0,rfl,cz _,by omega,rfl⟩ (by omega);rintro q9 y s1 ⟨i,rfl,hi,hq,rfl⟩ rec aN;rw[dT];simp only[av,aq];by_cases aw:i<x.aK.length
 .rw[ax (show(i:Int)<(x.aK.length:Int) by omega),ae]
  refine Ok.join λaI jV=>?_
  have ep:=Zwb (λj:Nat=>decide ((j:Int)∈x.free)) i;have akE:=Zwb (λj:Nat=> !decide ((j:Int)∈x.free)&& !decide ((j:Int)∈nZ x)) i;refine Ok.join λaW kL=>?_
  have fin:Ok (λo=>∃s',o=(.val [.a (F8 x b)],s')/\aB st s') (aW [.b (decide ((i:Int)∈nZ x))] s1):=by
   rw[kL];simp only[au,aq];refine Ok.call (Bu n 1 x.free i p3 s1 (.inl rfl) dS) ?_;rintro _ rfl;refine⟨_,s1,rfl,?_⟩;rw[au,aq];have go: ∀a c:Nat,a=vh x (i+1)->c=wq x (i+1)->Ok (λo=>∃s',o=(.val [.a (F8 x b)],s')/\aB st s') (aI [.a [.i ((Zq x).length:Nat),.i (x.aM.length:Nat),.i (a:Nat),.i (c:Nat),.i b]] s1):=by
    rintro _ _ rfl rfl;rw[jV];simp only[ZN,av,aq];rw[Zc];exact aN (x.aK.length-(i+1)) _ _ (by omega) (by grind)
   have mY:vh x (i+1)=vh x i+(bif decide ((i:Int)∈x.free)then 1 else 0):=Ie _ _;have Hd:wq x (i+1)=wq x i+(bif !decide ((i:Int)∈x.free)&& !decide ((i:Int)∈nZ x)then 1 else 0):=Ie _ _;have cG:ar ((vh x i:Int)+1)=((vh x i+1:Nat):Int):=Zc (by unfold vh;omega) (by unfold vh;omega);have fR:ar ((wq x i:Int)+1)=((wq x i+1:Nat):Int):=Zc (by unfold wq;omega) (by unfold wq;omega);rw[Za];cases hm:decide ((i:Int)∈x.free)with
   |true=>
    rw[hm]at mY Hd;rw[ae];simp only[ZN,av,aq];rw[cG];grind
   |false=>
    rw[hm]at mY Hd;rw[af,Za];cases hs:decide ((i:Int)∈nZ x)with
    |false=>
     rw[hs]at Hd;rw[bn,ae];simp only[ZN,av,aq];rw[fR];grind
    |true=>
     rw[hs]at Hd;rw[bu,af];simp only[ZN,av,aq];grind
  refine Zi _ (λq y u=>∃(k:Nat),y=[.b (decide ((i:Int)∈(nZ x).take k)),.i (k:Int)]/\k<=(Zq x).length/\(Zq x).length-k<=q/\u=s1) ?_ (Zq x).length n _ _ ⟨0,by simp,cz _,by omega,rfl⟩ (by omega);rintro q8 y s1 ⟨k,rfl,hk,hq8,rfl⟩ dw j4;rw[au,av,aq];have hlen:(nZ x).length=(Zq x).length:=lG _;by_cases fY:k<(Zq x).length
  .rw[ax (show(k:Int)<((Zq x).length:Int) by omega),ae]
   refine Ok.join λdp Ov=>?_
   have fZ:(nZ x).take (k+1)=(nZ x).take k++[(Zq x)[k].slot]:=by
    rw[lX (by omega)];simp[nZ]
   have go: ∀c,c=decide ((i:Int)∈(nZ x).take (k+1))->Ok (λo=>∃s',o=(.val [.a (F8 x b)],s')/\aB st s') (dp [.b c] s1):=by
    rintro _ rfl;rw[Ov];simp only[au,aq];rw[Zc];exact j4 ((Zq x).length-(k+1)) _ _ (by omega) (by grind)
   cases eN:decide ((i:Int)∈(nZ x).take k)with
   |true=>
    rw[ae];grind
   |false=>
    rw[af];obtain⟨i1,o1,rfl⟩:=dA.cH (by rw[Zt];omega);have Of:=Zyt (l:=Zq x) (k:=k) (x:=(Zq x)[k]) (by grind) (m:=0) (by omega);have ld: ∀K:DV->M ah,bD i1 (k*4+o1) K s1=K (.i (Zq x)[k].slot) s1:=λK=>by
     have:=dA.get Of K;rwa [gV]at this
    rw[bd,Zb (Zj fY)];rw[bp];rw[ld];rw[bg];grind
  grind
 .rw[aF (show ¬(i:Int)<(x.aK.length:Int) by omega),af,nB]
  simp only[ZN,av,aq,Zd];have:i=x.aK.length:=by omega
  subst this;exact .mk ⟨_,rfl,aH⟩
theorem Zre {l:ak} (hn:l.Nodup) (hr: ∀k∈l,0<=k/\k<(n:Int)):(List.range n).countP (λj:Nat=>decide ((j:Int)∈l))=l.length:=by
 rw[List.countP_eq_length_filter];have hA:(((List.range n).filter λj:Nat=>decide ((j:Int)∈l)).map λj:Nat=>(j:Int)).Nodup:=by
  refine List.Pairwise.map _ (λa b h=>?_) (List.nodup_range.filter _);omega
 have hL:=lG (λj:Nat=>(j:Int)) (as:=(List.range n).filter λj:Nat=>decide ((j:Int)∈l));refine Nat.le_antisymm ?_ ?_
 .rw[<-hL]
  refine xL hA λk hk=>?_
  grind
 .rw[<-hL]
  refine xL hn λk hk=>?_
  have:=hr k hk;refine pK.2 ⟨k.toNat,Fb.2 ⟨ux.2 (by omega),ax ?_⟩,by omega⟩;rw[Int.toNat_of_nonneg this.1];exact hk
theorem ZqS {x:fJ} (hd: ∀k,k∈x.free->k∉nZ x): ∀i:Nat,wq x i+vh x i+(List.range i).countP (λj:Nat=>decide ((j:Int)∈nZ x))=i
 |0=>rfl
 |i+1=>by
  have ih:=ZqS hd i;have a:vh x (i+1)=_:=Ie _ _;have b:wq x (i+1)=_:=Ie _ _;have c:=Ie (λj:Nat=>decide ((j:Int)∈nZ x)) i;have:=hd i;rw[a,b,c];change (List.range i).countP _+(List.range i).countP _+_=i at ih;by_cases h1:(i:Int)∈x.free
  .grind
  grind
theorem ZoM: ∀(l:List dP) (a:Nat),a+(l.map λh=>h.cj.length).sum<1000000->xH l (a:Int)=((a+(l.map λh=>h.cj.length).sum:Nat):Int)
 |[],a,_=>rfl
 |h::r,a,hb=>by
  rw[oG,List.sum_cons]at hb;unfold xH;rw[Bf,Zc,<-C7];have:=ZoM r (a+h.cj.length) (by omega);grind[xH]
theorem Zx8 {x:cy} (h:HQ img x v):F8 (fh x v) ((dq (x.aJ.foldl (bK x.blocks.toNat) v.W)).length:Nat)=I7 x v:=by
 have⟨hx,hb,_,Xc,ox,Yr,sz,CC,hm⟩:=h;have⟨g1,g2,_⟩:=Z4 hx.g;have⟨n1,n2,n3⟩:=rR.1 hm.nodup;have r1: ∀k∈nZ (fh x v),0<=k/\k<((fh x v).aK.length:Int):=λk hk=>hm.range k (List.mem_append_left _ hk)
 have r2: ∀k∈(fh x v).free,0<=k/\k<((fh x v).aK.length:Int):=λk hk=>hm.range k (Lq _ hk)
 have c1:_=(nZ (fh x v)).length:=Zre n1 r1;have c2:vh (fh x v) (fh x v).aK.length=_:=Zre n2 r2;have c3:=ZqS (x:=fh x v) (λk h1 h2=>n3 k h2 k h1 rfl) (fh x v).aK.length;have hl:(nZ (fh x v)).length=(Zq (fh x v)).length:=lG _;have Az:(Zq (fh x v)).length=(v.aM.map λh=>h.cj.length).sum:=by
  show((v.aM.map (·.cj)).flatten).length=_;rw[List.length_flatten,zw];rfl
 have he:=sz.e;have hg:=sz.g;have e1:xH v.aM 0=((Zq (fh x v)).length:Nat):=by
  have:=ZoM v.aM 0 (by omega);rw[Az];rw[show((0:Nat):Int)=0 from rfl]at this;rw[this,eO]
 have⟨q1,q2⟩:=ZF x.blocks.toNat x.aJ v.W;have e2:BP (x.aJ.foldl (bK x.blocks.toNat) v.W)=((dq (x.aJ.foldl (bK x.blocks.toNat) v.W)).length:Nat):=by
  have:=Zpw (x.aJ.foldl (bK x.blocks.toNat) v.W) 0 0 (q2 Yr) (by rw[q1,ox];omega);unfold BP dq;rw[show((0:Nat):Int)=0 from rfl,eO]at this;exact this
 have ep:(fh x v).free=v.free:=rfl;have jm:(fh x v).aK=v.aK:=rfl;have ub:(fh x v).aM=v.aM:=rfl;unfold F8 I7;rw[e1,e2,c2,ub,ep];rw[hl]at c1;rw[c1,c2]at c3;rw[jm,ep]at c3;rw[jm]at hg⊢;congr 4;rw[Zc (x:=(v.aK.length:Int)-_),Zc];congr 1;omega
theorem ZnF {x:cy} (h:mb img=(some (x,v),e)):e=0/\HQ img x v:=by
 unfold mb at h;cases hp:vH img with
 |none=>rw[hp]at h;cases h
 |some y=>
  rw[hp]at h;have hw:=Zoo (img:=img) (ZsY hp);grind
theorem ZtS (h:mb img=(none,e)):e≠0:=by
 grind[mb]
theorem acQ (s:St):lh s nL none none none:=⟨⟨[],rfl,rfl⟩,rfl,rfl⟩
theorem Zou (n:Nat) (a:ai) (img:aj) (st:St) (ht:sc st) (ha:dc st a img) (hl:img.length<262144) (hn:95000<=n):
  Ok (λo=>∃s',o=(.val [.b true],s')/\aB st s') (run Bd n 339 [.s 1 a img.length] st):=by
 obtain _|n:=n;omega;rw[Ze,h.agD];unfold Ri bV Zx Zhi Iq cP oe aA bq Zty Ls aZ Lb Bp wh
 try dsimp only
 rw[aX,aq];have lQ: ∀K:ah->M ah,dy a img.length K st=K (bU img) st:=λK=>by
  have:=iR (show Sl _ a (bU img)from ha) K;rwa [Zu]at this
 rw[lQ,<-lr,oJ];have⟨R,hR⟩: ∃R,mb img=R:=⟨_,rfl⟩;have Ky:=Zpz n img st (by omega) (by omega);have jT:=λs1 (hp:aB st s1)=>Rf n a img s1 (ht.mono hp) (ha.mono hp) hl (λx v e he=>by have:=(ZnF he).2.2.2.2.2.2.2.2.2.D4;have e:(fh x v).aM=v.aM:=rfl;rw[e]at this;omega)
 have cg:=λs1 (hp:aB st s1)=>ZpW n a img s1 (ht.mono hp) (ha.mono hp) hl (by omega)
 have jc:=λs1 (hp:aB st s1)=>ZrD n a img s1 (ht.mono hp) (ha.mono hp) hl (by omega)
 rw[hR]at Ky jT cg jc;refine Ok.call Ky ?_;rintro o ⟨s1,aH,ho⟩;have⟨r,e⟩:=R;cases r with
 |none=>
  have he:=ZtS hR;obtain⟨a1,a2,a3,a4,a5,a6,a7,a8,z,p,m,hz,rfl⟩:=ho;refine⟨_,s1,rfl,?_⟩;unfold dE AT;simp only[ZN,av,Zg 2 0 none _ (.inr rfl),Zg 1 0 none _ (.inr rfl),Zg 1 z p _ hz,aq];refine Ok.call (jT s1 aH) ?_;rintro o ⟨s2,aU,rfl⟩;refine⟨_,s2,rfl,?_⟩;unfold VS;simp only[ZN,av,aq];have iP:=aH.trans aU;refine Ok.call (cg s2 iP) ?_;rintro o ⟨s3,cu,rfl⟩;refine⟨_,s3,rfl,?_⟩;have ug:=iP.trans cu;unfold dE;simp only[ZN,av,aX,aq];refine Ok.call (jc s3 ug) ?_;rintro o ⟨s4,fy,rfl⟩;refine⟨_,s4,rfl,?_⟩;have Et:=ug.trans fy;simp only[av,Zg 1 0 none _ (.inr rfl),aq];have Ol:(!(e==e))=false:=by rw[xq];rfl
  rw[Za,Ol,af];simp only[au,aq];rw[Za,af];simp only[au,aq];rw[af,show(!(e==0))=true by rw[eG.2 he];rfl,ae,Za,show((0:Int)==0)=true from rfl];simp only[vQ,ae];have OZ:=ZlO n nL nL 2 1 1 none none none 0 0 0 none none none s4 (.inl rfl) (.inl rfl) (.inl rfl) (.inr rfl) (.inr rfl) (.inr rfl) (acQ s4) (acQ s4) ⟨⟨cz _,(λg hg=>nomatch hg),(λg hg=>nomatch hg)⟩,cz _,cz _,cz _⟩;refine Ok.call OZ ?_;rintro _ ⟨b,rfl,hb⟩;refine⟨_,s4,rfl,?_⟩;rw[hb.2 rfl];simp only[au,aq];rw[Za,ae];simp only[au,aq];rw[Zd];exact .mk ⟨s4,rfl,Et⟩
 |some q=>
  have⟨x,v⟩:=q;obtain⟨rfl,_⟩:=ZnF hR;obtain⟨hW,p2,p3,p4,pc,q,rfl,eX,vD⟩:=ho;have⟨hx,_,_,_,ox,Yr,sz,_,_⟩:=id hW;refine⟨_,s1,rfl,?_⟩;have Ee:=λb s (hp:aB s1 s)=>ZqC n (fh x v) p2 p3 p4 b s (eX.pre hp) sz (by omega)
  have kO:=λ(q2 q3 q4:ai) s (hp:aB s1 s) (hh:lh s (fh x v) q2 q3 q4)=>ZlO n (fh x v) (fh x v) 2 1 1 q2 q3 q4 2 1 1 p2 p3 p4 s (.inl rfl) (.inl rfl) (.inl rfl) (.inl rfl) (.inl rfl) (.inl rfl) hh (eX.pre hp) sz
  unfold dE at Ee kO;unfold dE dj;simp only[ZN,av,aX,aq];refine Ok.call (jT s1 aH) ?_;rintro o ⟨s2,aU,rfl⟩;refine⟨_,s2,rfl,?_⟩;have iP:=aH.trans aU;have pZ:=Zx8 hW;unfold I7 at pZ⊢;simp only[ZN,av,aq];refine Ok.call (cg s2 iP) ?_;rintro o ⟨s3,cu,q2,q3,q4,rfl,aiN⟩;refine⟨_,s3,rfl,?_⟩;have ug:=iP.trans cu;unfold dE;simp only[ZN,av,aX,aq];refine Ok.call (jc s3 ug) ?_;rintro o ⟨s4,fy,pu,rfl,hu4⟩;refine⟨_,s4,rfl,?_⟩;have Et:=ug.trans fy;simp only[av,aX,aq];have Ol:(!((0:Int)==0))=false:=rfl;rw[Za,Ol,af];simp only[au,aq];rw[Za,af];simp only[au,aq];rw[af,af];refine Ok.cn (Ee _ s4 (aU.trans (cu.trans fy))) λs5 jZ=>?_
  rw[pZ];have aic:=Et.trans jZ;simp only[ZN,av,aq];simp only[xq,vQ,ae];rw[Za];refine Ok.call (kO q2 q3 q4 s5 (aU.trans (cu.trans (fy.trans jZ))) (aiN.pre (fy.trans jZ))) ?_;rintro _ ⟨b,rfl,hb⟩;refine⟨_,s5,rfl,?_⟩;rw[hb.2 rfl];simp only[au,aq];rw[Za,ae];have hlen:(dq (x.aJ.foldl (bK x.blocks.toNat) v.W)).length<=50000:=by
   have⟨g1,g2,_⟩:=Z4 hx.g;have⟨q1,q2⟩:=ZF x.blocks.toNat x.aJ v.W;have:=RN (x.aJ.foldl (bK x.blocks.toNat) v.W) (x.aJ.foldl (bK x.blocks.toNat) v.W).length;rw[rU,q1,ox]at this;omega
  refine Ok.call (Rn n _ _ pu q s5 (hu4.mono jZ) (vD.mono (aU.trans (cu.trans (fy.trans jZ)))) (by omega) hlen) ?_;rintro _ rfl;refine⟨_,s5,rfl,?_⟩;rw[ax rfl];simp only[au,aq];rw[Zd];exact .mk ⟨s5,rfl,aic⟩
end Go.Gv.F
