/- A block's superblock, and the one that counts: the document's. -/
import Derived.Test.YtegglibipjjblaaGreatDoorGvZCa
import Derived.Test.YtegglibipjjblaaGreatDoorGvZMj
import Derived.Test.YtegglibipjjblaaGreatDoorGvMOk3
set_option linter.all false
namespace Go.Gv.F
open Go.Gv
set_option maxHeartbeats 4000000
variable {e:Int} {n t:Nat} {v:aS} {img l:aj}
def ZxW {b:aj} (h:b.length=56) (ht:t<=8):Py (jC b t)=b.take (32+2*t):=by
 unfold Py jC;simp only;rw[pW,pW,pW,pW,pW,pW,pW,pW,H4 t (by omega),dK];have e1:b.take 8++(b.drop 8).take 4=b.take 12:=by rw[<-nb]
 have e2:b.take 12++(b.drop 12).take 4=b.take 16:=by rw[<-nb]
 have e3:b.take 16++(b.drop 16).take 4=b.take 20:=by rw[<-nb]
 have e4:b.take 20++(b.drop 20).take 4=b.take 24:=by rw[<-nb]
 have e5:b.take 24++(b.drop 24).take 4=b.take 28:=by rw[<-nb]
 have e6:b.take 28++(b.drop 28).take 2=b.take 30:=by rw[<-nb]
 have e7:b.take 30++(b.drop 30).take 2=b.take 32:=by rw[<-nb]
 rw[e1,e2,e3,e4,e5,e6,e7,<-nb]
def ZxA {b:aj} (ho:fM l=some (7,t,b)) (ht:t<=8):mS l=(bif ZU (jC b t)&&xT (jC b t)==l then some (jC b t)else none):=by
 obtain⟨h1,h2,h3,h4⟩:=sb ho;have key:(xT (jC b t)==l)=ZE (b.drop (32+2*t)):=by
  have fY:(jC b t).aJ.length=t:=If b t;unfold xT;rw[ZxW h2 ht,fY,lC,uy]
  conv=>lhs;rhs;rw[h1]
  have:=FQ (k:=7) (t:=t) (k':=7) (t':=t) (b:=b.take (32+2*t)) (b':=b) (by omega) (by omega) h4 (by omega) (by omega) h4 (by rw[cX];omega);rw[show((7:Nat):Int)=7 from rfl]at this;rw[show((7:Nat):Int)=7 from rfl,this,Ih h2,Ii h2];simp
 grind[mS]
variable {Bd:Zh} [h:HA Bd]
def Ztt (n:Nat) (p:ai) (l:aj) (st:St) (hs:dc st p l) (hl:l.length=64) (hn:6000<=n):
  Ok (tq st (mS l)) (run Bd n 350 [.slice 1 p 64] st):=by
 obtain⟨n,rfl⟩: ∃m,n=m+1:=⟨n-1,by omega⟩;rw[Ze,h.agy];unfold Te bV uN aA cw HV bq jw LK lW aZ vY Ls ZZ Bp Lb Li HT;simp only[aX,aq,ZL];refine Ok.cv (Fs n p l st hs hl) λs1 aH=>?_
 have eX:=hs.mono aH;have bad: ∀s',aB st s'->mS l=none->Ok (tq st (mS l)) ((bZ st.length [.agg qK,.bool false]:M ah) s'):=λs' hp hg=>by
  rw[Zp,hg];exact .mk ⟨_,Zr hp,0,rfl⟩
 unfold yS;cases ho:fM l with
 |none=>
  simp only[av,bR,au,aq];rw[Za,bn,ae];simp only[au,aq];rw[Za,ae];simp only[au,aq];rw[ae];exact bad s1 aH (by unfold mS;rw[ho])
 |some q=>
  obtain⟨k,t,b⟩:=q;obtain⟨_,hb,_,ht⟩:=sb ho;simp only[av,bR,au,aq];rw[Za,br,af,nn k 7 7 rfl];simp only[au,aq];rw[Za];by_cases hk:k=7
  .subst hk
   rw[ax rfl,br,af];simp only[au,aq];by_cases Eu:t<=8
   .rw[aF (show ¬(t:Int)>8 by omega),af]
    have cI:=ZxA ho Eu;have rn: ∀(a c:Nat),c<=8->run Bd n 292 [.str ((b.take (a+c)).drop a)] s1=some (.val [.int .i64 (bN b a c)],s1):=λa c hc=>by
     rw[xB n _ s1 (zU hc),zQ]
    have r0:run Bd n 292 [.str (b.take 8)] s1=some (.val [.int .i64 (bN b 0 8)],s1):=by
     have:=rn 0 8 (by omega);rwa [dK]at this
    rw[Zb (ax (by omega)),Zk r0];simp only[av,aq];rw[Zb (ax (by omega)),Zk (rn 8 4 (by omega))];simp only[av,aq];rw[Zb (ax (by omega)),Zk (rn 12 4 (by omega))];simp only[av,aq];rw[Zb (ax (by omega)),Zk (rn 16 4 (by omega))];simp only[av,aq];rw[Zb (ax (by omega)),Zk (rn 20 4 (by omega))];simp only[av,aq];rw[Zb (ax (by omega)),Zk (rn 24 4 (by omega))];simp only[av,aq];rw[Zb (ax (by omega)),Zk (rn 28 2 (by omega))];simp only[av,aq];rw[Zb (ax (by omega)),Zk (rn 30 2 (by omega))];simp only[av,aq];refine Ok.join λaW kK=>?_
    refine Zi _ (λq y s=>∃(i z:Nat) (pk:ai),y=[.agg (CU b z pk i),.int .i64 i]/\(z=1\/pk=none)/\i<=t/\t-i<=q/\bm st s pk (ints (zW b i))/\dc s p l) ?_ t n _ _ ⟨0,0,none,rfl,.inr rfl,by omega,by omega,.nil aH,eX⟩ (by omega);rintro q _ s ⟨i,z,pk,rfl,hz,hi,hq,gq,vh⟩ rec aN;rw[dT];unfold CU;simp only[av,Zg 1 z pk _ hz,aq];have fY:=If b i;have jT:(ints (zW b i)).length=i*1:=by rw[Zru];omega
    by_cases aw:i<t
    .have cG:ar ((i:Int)+1)=((i+1:Nat):Int):=Zc
     have jA:ar (2*(i:Int))=((2*i:Nat):Int):=Zc;have j4:ar (34+((2*i:Nat):Int))=((32+2*i+2:Nat):Int):=by rw[Zc];omega
     have pC:ar (32+((2*i:Nat):Int))=((32+2*i:Nat):Int):=by rw[Zc];omega
     simp only[cG,jA,j4,pC,bp];rw[ax (show(i:Int)<(t:Int) by omega),ae];rw[Zb (by rw[aY,bu,bu];omega),Zb (by rw[aY,bu,bu];omega)];rw[vZ (xB n _ s (zU (a:=32+2*i))),zQ];simp only[av,aq];obtain⟨q2,s2,du,vj⟩:=gq.push (β:=ah) (sz:=1) (n:=i) (lim:=8796093022208) [.int .i64 (bN b (32+2*i) 2)] (by omega) jT rfl (by omega);rw[vj];refine aN (t-(i+1)) _ _ (by omega) ⟨i+1,1,q2,rfl,.inl rfl,by omega,aQ _,?_,?_⟩
     .rw[ZmO,ZqG]
      exact du
     .exact hs.mono du.1
    .rw[aF (show ¬(i:Int)<(t:Int) by omega),af]
     have AA:i=t:=by omega
     subst AA;subst kK;show Ok _ (ba [DV.agg _] _ s);rw[dT];simp only[av,aX,aq];have dA:Sl s pk (ints (jC b i).aJ):=gq.sl;have ot:(jC b i).aJ.length=i:=fY;have nx:([.int .i64 (bN b 0 8),.int .i64 (bN b 8 4),.int .i64 (bN b 12 4),.int .i64 (bN b 16 4),.int .i64 (bN b 28 2),.int .i64 (bN b 20 4),.int .i64 (bN b 24 4),.int .i64 (bN b 30 2),.slice 1 pk i]:ah)=dj (jC b i) pk:=by
      unfold dj;rw[ot];rfl
     rw[nx];refine Ok.cv (Rl n (jC b i) pk s dA) λs2 aU=>?_
     simp only[au,aq];rw[Za];cases hr:ZU (jC b i)with
     |false=>
      rw[hr,gf,af]at cI;rw[bn,ae];simp only[au,aq];rw[ae];exact bad s2 (gq.1.trans aU) cI
     |true=>
      rw[hr,dF]at cI;rw[br,af];refine Ok.cx (ZlW n (jC b i) pk s2 (dA.mono aU)) λs3 cu=>?_
      simp only[bR,aq];have rl: ∀(K:ah->M ah),dy p 64 K s3=K (bU l) s3:=λK=>by
       have:=iR (show Sl _ _ (bU l)from(vh.mono aU).mono cu) K;rwa [Zu,hl]at this
      rw[rl,<-ll,oJ];simp only[au,aq];have XR:=(gq.mono aU).mono cu;cases cN:(xT (jC b i)==l)with
      |false=>
       rw[cN]at cI;rw[bn,ae];exact bad s3 XR.1 cI
      |true=>
       rw[cN,ae]at cI;rw[br,af,Zp,cI];exact .mk ⟨_,Zr XR.1,pk,rfl,XR.fz.1⟩
   .rw[ax (show(t:Int)>8 by omega),ae]
    refine bad s1 aH ?_;grind[mS]
  .rw[aF hk,bn,ae]
   simp only[au,aq];rw[ae];refine bad s1 aH ?_;grind[mS]
def pQ.dQ {st s:St} {r:Option cy} {cs:ah} {b:Bool} (h:pQ s r cs b):pQ (Z1 st.length s) r cs b:=by
 cases r with
 |none=>exact h
 |some x=>obtain⟨p,h1,h2,h3⟩:=h;exact⟨p,h1,h2,h3.dQ _⟩
def ZnG (n:Nat) (img:aj) (k:Nat) (st:St) (hl:img.length<1000000) (hk:k<2:=by omega) (hn:6001<=n:=by omega):
  Ok (tq st (ly img k)) (run Bd n 349 [.str img,.int .i64 k] st):=by
 obtain⟨n,rfl⟩: ∃m,n=m+1:=⟨n-1,by omega⟩;rw[Ze,h.agx];unfold TZ nU aA zI vY aZ Bp Lb ly;simp only[bR,av,aq,ZL,Za];have hw:ar (((64*k:Nat):Int)+64)=((64*k+64:Nat):Int):=by rw[Zc];omega
 have yG:ar (64*(k:Int))=((64*k:Nat):Int):=by rw[Zc];omega
 rw[aF (show ¬(k:Int)<0 by omega),af,aF (show ¬(k:Int)>1 by omega)];simp only[au,aq,af];simp only[yG,hw,bp];by_cases aw:k<img.length/64
 .rw[ax aw,ae,aF (show ¬(img.length:Int)<((64*k+64:Nat):Int) by omega)]
  rw[af,Zb (by rw[aY,bu,bu];omega),Zb (by rw[aY,bu,bu];omega),Zz];have hc:(img.take (64*k+64)).drop (64*k)=pD img k:=by
   grind[pD]
  have gp:(pD img k).length=64:=by grind
  rw[hc,gp];have hb:dc (st++[some ⟨false,ZQ (pD img k)⟩]) (some (st.length,0)) (pD img k):=⟨false,ZQ (pD img k),by simp,Nat.le_of_eq (by rw[eW,ll]),by rw[dK,ll,rR]⟩;refine Ok.call (Ztt n _ _ _ hb gp (by omega)) ?_;intro o ho;obtain⟨s1,cs,b,rfl,aH,hm⟩:=ho.out;refine⟨_,s1,rfl,?_⟩;obtain⟨a1,a2,a3,a4,a5,a6,a7,a8,z,p,m,rfl,hz,_,mn⟩:=hm.nine;rw[ZN];unfold AQ;simp only[av,Zg 1 z p _ hz,au,aq];rw[Zp];have hp:aB st (Z1 st.length s1):=Zr ((aB.new _ _).trans aH);have fu:=mn.dQ (st:=st);cases hg:mS (pD img k)with
  |none=>
   rw[hg]at fu;obtain⟨⟨z',e⟩,rfl⟩:=fu;exact .mk ⟨_,hp,z',by rw[<-e];rfl⟩
  |some x=>
   rw[hg]at fu;obtain⟨q,e,rfl,hs⟩:=fu;exact .mk ⟨_,hp,q,by rw[<-e];rfl,hs⟩
 .rw[aF aw,af,ax (show(img.length:Int)<((64*k+64:Nat):Int) by omega)]
  rw[ae,Zp];exact .mk ⟨_,Zr (.refl _),0,rfl⟩
def ZrO (n:Nat) (img:aj) (st:St) (hl:img.length<1000000) (hn:6010<=n):
  Ok (PY st (vF img)) (run Bd n 348 [.str img] st):=by
 obtain⟨n,rfl⟩: ∃m,n=m+1:=⟨n-1,by omega⟩;rw[Ze,h.agw];unfold SA jJ zI aA eI Bn Lb;simp only[bR,aq,ZL];refine Ok.call (ZnG n img 0 st hl) ?_;intro o ho;obtain⟨s1,cs,b,rfl,aH,hm⟩:=ho.out;refine⟨_,s1,rfl,?_⟩;obtain⟨a1,a2,a3,a4,a5,a6,a7,a8,z,p,m,rfl,hz,G6,mn⟩:=hm.nine;rw[ZN];unfold AQ;simp only[av,Zg 1 z p _ hz,au,aq];refine Ok.call (ZnG n img 1 s1 hl) ?_;intro o ho;obtain⟨s2,cC,b2,rfl,aU,fu⟩:=ho.out;refine⟨_,s2,rfl,?_⟩;obtain⟨c1,c2,c3,c4,c5,c6,c7,c8,z2,p2,m2,rfl,gS,X7,sI⟩:=fu.nine;rw[ZN];unfold AQ;simp only[av,Zg 1 z2 p2 _ gS,au,aq];have iP:=aH.trans aU;have e1:=mn.b;have e2:=sI.b;have AF:=(mn.mono aU).dQ (st:=st);have Oq:=sI.dQ (st:=st);unfold vF;obtain⟨ra,hra⟩: ∃r,ly img 0=r:=⟨_,rfl⟩;obtain⟨rb,hrb⟩: ∃r,ly img 1=r:=⟨_,rfl⟩;rw[hra]at e1 AF G6⊢;rw[hrb]at e2 Oq X7⊢;rw[Za];cases rb with
 |none=>
  subst e2;rw[show Option.isSome (none:Option cy)=false from rfl,af];simp only[au,aq];rw[af,Zp];refine .mk ⟨_,_,_,_,rfl,Zr iP,?_⟩;cases ra<;>exact AF
 |some y=>
  subst e2;rw[show Option.isSome (some y)=true from rfl,ae,Za];cases ra with
  |none=>
   subst e1;rw[show(!Option.isSome (none:Option cy))=true from rfl,ae];simp only[au,aq];rw[ae,Zp];exact .mk ⟨_,_,_,_,rfl,Zr iP,Oq⟩
  |some x=>
   subst e1;rw[show(!Option.isSome (some x))=false from rfl,af,G6 x rfl,X7 y rfl];simp only[au,aq];rw[show xj (xj none (some x)) (some y)=(bif decide (y.seq>x.seq)then some y else some x)from rfl];cases hd:decide (y.seq>x.seq)with
   |true=>
    rw[ae,ae,Zp];rw[X7 y rfl]at Oq;exact .mk ⟨_,_,_,_,rfl,Zr iP,Oq⟩
   |false=>
    rw[af,af,Zp];rw[G6 x rfl]at AF;exact .mk ⟨_,_,_,_,rfl,Zr iP,AF⟩
def Zr0 (n:Nat) (x:cy) (pc:ai) (l:ak) (p:ai) (st:St) (hc:Sl st pc (ints x.aJ)) (hs:Sl st p (ints l)) (hr:kB l) (hl:l.length<50000) (cN:x.aJ.length<1000) (hn:l.length+x.aJ.length+1000<=n):
  Ok (λo=>∃p r s',o=(.val [.slice 1 p r.length],s')/\aB st s'/\Sl s' p (ints r)/\Dk x.blocks l x.aJ r) (run Bd n 344 [.agg (dj x pc),.slice 1 p l.length] st):=by
 obtain⟨n,rfl⟩: ∃k,n=k+1:=⟨n-1,by omega⟩;rw[Ze,h.ags];unfold Sx Z6 bV fB kb Zn iL aZ Z7 dY;rw[dT];unfold dj;simp only[av,aX,aq,ZL];refine Ok.join λaz nA=>?_
 refine Zi _ (λq y t=>∃(i:Nat) (r:ak) (p':ai),y=[.slice 1 p' r.length,.int .i64 (i:Int)]/\i<=x.aJ.length/\x.aJ.length-i<=q/\aB st t/\Sl t p' (ints r)/\kB r/\r.length<=l.length+i/\∀k,k∈r↔k∈l\/(k∈x.aJ.take i/\0<=k/\k<x.blocks)) ?_ x.aJ.length n _ _ ⟨0,l,p,rfl,cz _,by omega,.refl _,hs,hr,by omega,λk=>by simp⟩ (by omega);rintro q y t ⟨i,r,p',rfl,hi,hq,hp,hf,G0,Cy,iO⟩ rec aN;simp only[aX,av,aq];by_cases aw:i<x.aJ.length
 .obtain⟨i1,o1,rfl⟩:=hc.cH (by simp[ints];omega)
  have da:(ints x.aJ)[i]? =some (.int .i64 x.aJ[i]):=ZD aw;have fZ:x.aJ.take (i+1)=x.aJ.take i++[x.aJ[i]]:=lV aw;rw[ax (show(i:Int)<(x.aJ.length:Int) by omega),ae,bd,Zb (Zj aw)];simp only[bp];rw[(hc.mono hp).dJ da];simp only[bg];generalize x.aJ[i]=w at da fZ;refine Ok.call (Ti n r 1 p' x.blocks w t (.inl rfl) hf G0) ?_;rintro _ ⟨p2,r2,s2,rfl,aU,mU,ik,fu⟩;refine⟨_,s2,rfl,?_⟩;simp only[aX,aq];rw[Zc];refine aN (x.aJ.length-(i+1)) _ _ (by omega) ⟨i+1,r2,p2,rfl,by omega,aQ _,hp.trans aU,mU,ik,?_,λk=>?_⟩
  .have:r2.length<=(w::r).length:=xO ik.nodup λk hk=>by
    grind
   rw[cO]at this;omega
  grind
 .rw[aF (show ¬(i:Int)<(x.aJ.length:Int) by omega),af,nA]
  rw[dG (by omega)]at iO;simp only[aX,aq];rw[Zp];exact .mk ⟨p',r,_,rfl,Zr hp,hf.dQ _,G0,iO⟩
def Zz6 (st:St) (r:Option (cy×aS)×Int) (o:Out ah×St):Prop:=∃s',aB st s'/\match r with
 |(none,e)=>o=(.val [.agg (dE nK 2 none 1 none 1 none),.int .i64 e],s')
 |(some (x,v),_)=>∃p2 p3 p4,o=(.val [.agg (dE (fh x v) 2 p2 1 p3 1 p4),.int .i64 0],s')/\lf s' (fh x v) p2 p3 p4
def Zqp (n:Nat) (a:ai) (img:aj) (st:St) (ht:sa st) (ha:dc st a img) (hl:img.length<262144) (hn:50001<=n):
  Ok (Zz6 st (l8 img)) (run Bd n 341 [.slice 1 a img.length] st):=by
 obtain⟨n,rfl⟩: ∃m,n=m+1:=⟨n-1,by omega⟩;rw[Ze,h.agr];unfold R9 bV xD aZ Bm;simp only[aX,aq,ZL];refine Ok.call (QW n a img st ht ha hl) ?_;rintro o ⟨s1,aH,ho⟩;obtain⟨R,hR⟩: ∃R,l8 img=R:=⟨_,rfl⟩;rw[hR]at ho⊢;obtain⟨r,e⟩:=R;cases r with
 |none=>
  simp only at ho;obtain⟨rfl,he⟩:=ho;refine⟨_,s1,rfl,?_⟩;rw[ZN];unfold dE;simp only[av,Zg 2 0 none _ (.inr rfl),Zg 1 0 none _ (.inr rfl),eH,aq];rw[Zp];exact .mk ⟨_,Zr aH,rfl⟩
 |some q=>
  obtain⟨x,v⟩:=q;simp only at ho;obtain⟨z2,p2,z3,p3,z4,p4,i,j,rfl,gS,mA,wX,cg,dh⟩:=ho;refine⟨_,s1,rfl,?_⟩;rw[ZN];unfold dE;simp only[av,Zg 2 z2 p2 _ gS,Zg 1 z3 p3 _ mA,Zg 1 z4 p4 _ wX,eH,aq];rw[Zp];exact .mk ⟨_,Zr aH,p2,p3,p4,rfl,cg.dQ _⟩
def adh (st:St) (r:Option (cy×aS)×Int) (o:Out ah×St):Prop:=∃s',aB st s'/\match r with
 |(none,e)=>o=(.val [.slice 0 none 0,.int .i64 e],s')
 |(some (x,v),_)=>∃p,o=(.val [.slice 1 p (dq (x.aJ.foldl (bK x.blocks.toNat) v.W)).length,.int .i64 0],s')/\Sl s' p (ints (dq (x.aJ.foldl (bK x.blocks.toNat) v.W)))
def Zr2 (n:Nat) (a:ai) (img:aj) (st:St) (ht:sa st) (ha:dc st a img) (hl:img.length<262144) (hn:50001<=n):
  Ok (adh st (l8 img)) (run Bd n 346 [.slice 1 a img.length] st):=by
 obtain⟨n,rfl⟩: ∃m,n=m+1:=⟨n-1,by omega⟩;rw[Ze,h.agu];unfold Sz bV xD iL aZ iw Lp dY;simp only[aX,aq,ZL];refine Ok.call (QW n a img st ht ha hl) ?_;rintro o ⟨s1,aH,ho⟩;obtain⟨R,hR⟩: ∃R,l8 img=R:=⟨_,rfl⟩;rw[hR]at ho⊢;obtain⟨r,e⟩:=R;cases r with
 |none=>
  simp only at ho;obtain⟨rfl,he⟩:=ho;refine⟨_,s1,rfl,?_⟩;rw[ZN];unfold dE;simp only[av,Zg 2 0 none _ (.inr rfl),Zg 1 0 none _ (.inr rfl),eH,aq];rw[show(!(e==0))=true by rw[eG.2 he];rfl,ae,Zp];exact .mk ⟨_,Zr aH,rfl⟩
 |some q=>
  obtain⟨x,v⟩:=q;simp only at ho;obtain⟨z2,p2,z3,p3,z4,p4,i,j,rfl,gS,mA,wX,cg,dh⟩:=ho;refine⟨_,s1,rfl,?_⟩;rw[ZN];unfold dE;simp only[av,Zg 2 z2 p2 _ gS,Zg 1 z3 p3 _ mA,Zg 1 z4 p4 _ wX,eH,aq];rw[show(!((0:Int)==0))=false from rfl,af];refine Ok.call (ZmL (acJ) n s1 (ht.mono aH) dh) ?_;rintro _ ⟨pl,s2,rfl,aU,dA,_⟩;refine⟨_,s2,rfl,?_⟩;simp only[aX,aq];rw[Zp];exact .mk ⟨_,Zr (aH.trans aU),pl,rfl,dA.dQ _⟩
def HL (img:aj) (x:cy) (v:aS):Prop:=uH x/\x.blocks<=((img.length/64:Nat):Int)/\uS img x=some (fh x v,dq v.W)/\(∀b,di v.W b=true->b<x.blocks.toNat)/\v.W.length=(x.blocks.toNat+63)/64/\(∀w∈v.W,w<18446744073709551616)/\Dj (fh x v)/\(dq v.W).length<5000/\rY (fh x v)
def ZoZ {x:cy} (pB:ZU x=true):match rK (qo img x)with
  |some (some v)=>HL img x v
  |_=>uS img x=none:=by
 have hx:=(BB x).1 pB;obtain⟨g1,g2,_⟩:=Z4 hx.g;unfold rK;rw[show(qo img x).sup=x from rfl,show(qo img x).img=img from rfl,pB,ae];by_cases hb:x.blocks<=((img.length/64:Nat):Int)
 .rw[ax hb,ae]
  have OY:=Zyk (K:=qo img x) (img:=img) (x:=x) rfl rfl rfl hx hb;cases hw:sZ (qo img x)with
  |none=>rw[hw]at OY;exact OY
  |some v=>
   rw[hw]at OY;obtain⟨OX,all,dt⟩:=OY;obtain⟨sz,Cy⟩:=Zyw hx OX;have vu:(jd x.blocks.toNat [0,1]).length=(x.blocks.toNat+63)/64:=by unfold jd;rw[(ZF _ _ _).1,oF]
   have yG: ∀w∈jd x.blocks.toNat [0,1],w<18446744073709551616:=by
    unfold jd;exact(ZF _ _ _).2 λw hw=>by rw[List.mem_replicate]at hw;omega
   refine⟨hx,hb,OX,λb hb=>?_,?_,?_,sz,Cy,(Zx5 (K:=qo img x) pB (by show x.blocks=(x.blocks.toNat:Int);omega) hw).may⟩
   .rw[dt,zK all vu,wg]at hb
    omega
   .rw[dt,(ZF _ _ _).1,vu]
   .rw[dt]
    exact(ZF _ _ _).2 yG
 .rw[aF hb,af]
  grind[uS]
def Zzp {x:cy} (h:mS l=some x):ZU x=true:=by
 grind[mS]
def ZsI {x:cy} (h:vF img=some x):ZU x=true:=by
 have hr: ∀k y,ly img k=some y->ZU y=true:=λk y h=>by
  unfold ly at h;cases hd:decide (k<img.length/64)with
  |false=>rw[hd]at h;cases h
  |true=>rw[hd]at h;exact Zzp h
 unfold vF at h;cases h0:ly img 0 with
 |none=>cases h1:ly img 1 with
  |none=>rw[h0,h1]at h;cases h
  |some y=>rw[h0,h1]at h;cases h;exact hr _ _ h1
 |some y=>cases h1:ly img 1 with
  |none=>rw[h0,h1]at h;cases h;exact hr _ _ h0
  |some z=>
   rw[h0,h1]at h;rw[show xj (xj none (some y)) (some z)=(bif decide (z.seq>y.seq)then some z else some y)from rfl]at h;grind
def Zzk {x:cy} {W:al} {r:ak} (g:16<=x.blocks) (hl:W.length=(x.blocks.toNat+63)/64) (h:Dk x.blocks (dq W) x.aJ r):r=dq (x.aJ.foldl (bK x.blocks.toNat) W):=
 Fy h.1 (xA _) λk=>by
  rw[h.2,oO,oO];constructor
  .rintro(⟨b,rfl,h1⟩|⟨h1,h2,h3⟩)
   .exact⟨b,rfl,(zK _ hl b).2 (.inl h1)⟩
   .exact⟨k.toNat,by omega,(zK _ hl _).2 (by grind)⟩
  .rintro⟨b,rfl,h1⟩
   rcases(zK _ hl b).1 h1 with h1|⟨h1,h2⟩
   .grind
   grind
def ade (st:St) (img:aj) (r:Option (cy×aS)×Int) (o:Out ah×St):Prop:=∃s',aB st s'/\match r with
 |(none,e)=>∃a1 a2 a3 a4 a5 a6 a7 a8 z p n,(z=1\/p=none)/\o=(.val [.agg (dE nK 0 none 0 none 0 none),.agg (AQ a1 a2 a3 a4 a5 a6 a7 a8 z p n),.slice 0 none 0,.int .i64 e],s')
 |(some (x,v),_)=>HL img x v/\∃p2 p3 p4 pc q,o=(.val [.agg (dE (fh x v) 2 p2 1 p3 1 p4),.agg (dj x pc),.slice 1 q (dq (x.aJ.foldl (bK x.blocks.toNat) v.W)).length,.int .i64 0],s')/\lf s' (fh x v) p2 p3 p4/\Sl s' q (ints (dq (x.aJ.foldl (bK x.blocks.toNat) v.W)))
def Zqu (n:Nat) (img:aj) (st:St) (hl:img.length<1000000) (hn:90000<=n):
  Ok (ade st img (l8 img)) (run Bd n 345 [.str img] st):=by
 obtain⟨n,rfl⟩: ∃m,n=m+1:=⟨n-1,by omega⟩;rw[Ze,h.agt];unfold RS jJ LL Zx IZ bq bV Ls LI;simp only[bR,aq,ZL];refine Ok.call (ZrO n img st hl (by omega)) ?_;rintro _ ⟨s1,cs,k,b,rfl,aH,hm⟩;refine⟨_,s1,rfl,?_⟩;obtain⟨R,hR⟩: ∃R,l8 img=R:=⟨_,rfl⟩;rw[hR];unfold l8 at hR;cases jZ:vF img with
 |none=>
  rw[jZ]at hm hR;subst hR;obtain⟨⟨z,rfl⟩,rfl⟩:=hm;rw[ZN];unfold Hs;simp only[av,Zg 1 z none _ (.inr rfl),au,aq];rw[bn,ae,Zp];exact .mk ⟨_,Zr aH,0,0,0,0,0,0,0,0,1,none,0,.inl rfl,rfl⟩
 |some x=>
  rw[jZ]at hm;obtain⟨pc,rfl,rfl,Et⟩:=hm;have pB:=ZsI jZ;have hx:=(BB x).1 pB;obtain⟨g1,g2,_⟩:=Z4 hx.g;have cN:x.aJ.length<1000:=by
   have:=hx.len;rw[Tv hx.g]at this;omega
  have Yh:=ZoZ (img:=img) pB;have Kr:=Zqv n img x pc s1 hl Et cN (by omega);have tU:=λl p s (hp:aB s1 s) h1 h2 h3 h4 h5=>ZnQ n img x pc l p s (Et.mono hp) h1 h2 h3 h4 h5 cN hl
  have jc:=λl p s (hp:aB s1 s) h1 h2 h3=>Zr0 n x pc l p s (Et.mono hp) h1 h2 h3 cN
  unfold dj at Kr tU jc⊢;rw[dT];simp only[av,aX,au,aq];rw[br,af];refine Ok.call Kr ?_;rintro o ⟨s2,aU,ho⟩;have iP:=aH.trans aU;rw[jZ]at hR;simp only at hR;have agV:(uS img x=none/\R=(none,31))\/∃v,HL img x v/\R=bif zR img x v.W then(some (x,v),0)else(none,32):=by
   grind
  rcases agV with⟨cA,rfl⟩|⟨v,hW,rfl⟩
  .rw[cA]at ho
   simp only at ho;subst ho;refine⟨_,s2,rfl,?_⟩;rw[dT];unfold zz;simp only[av,Zg 2 0 none _ (.inr rfl),Zg 1 0 none _ (.inr rfl),au,aq];rw[bn,ae,Zp];exact .mk ⟨_,Zr iP,x.seq,x.blocks,x.de,x.g,x.cc,x.used,x.free,x.dir,1,pc,x.aJ.length,.inl rfl,rfl⟩
  .obtain⟨_,hb,OX,W2,ox,aiK,sz,Cy,_⟩:=id hW
   rw[OX]at ho;obtain⟨La,q1,q2,q3,q,rfl,Ym,aiy,G6⟩:=ho;refine⟨_,s2,rfl,?_⟩;rw[dT];unfold dE;simp only[av,Zg 2 La q1 _ Ym,aX,au,aq];rw[br,af];refine Ok.call (tU (dq v.W) q s2 aU G6 (xA _) (by omega) (λk hk=>?_) (by omega) (by omega)) ?_
   .obtain⟨b,rfl,hb⟩:=oO.1 hk
    have:=W2 b hb;omega
   rintro _ ⟨b2,s3,rfl,cu,c9⟩;refine⟨_,s3,rfl,?_⟩;simp only[au,aq];have tR:zR img x v.W=b2:=by
    rw[lC,c9];exact Zus hx ox aiK W2 hb
   rw[tR];cases b2 with
   |false=>
    rw[bn,ae,af,Zp];exact .mk ⟨_,Zr (iP.trans cu),x.seq,x.blocks,x.de,x.g,x.cc,x.used,x.free,x.dir,1,pc,x.aJ.length,.inl rfl,rfl⟩
   |true=>
    rw[br,af,ae];refine Ok.NH (jc (dq v.W) q s3 (aU.trans cu) (G6.mono cu) (xA _) (by omega) (by omega)) ?_;rintro _ ⟨pu,r,s4,rfl,fw,G8,Yg⟩;refine⟨_,s4,rfl,?_⟩;simp only[aX,aq];rw[Zp];have wS:=Zzk g1 ox Yg;subst wS;exact .mk ⟨_,Zr ((iP.trans cu).trans fw),hW,q1,q2,q3,pc,pu,rfl,(aiy.pre (cu.trans fw)).dQ _,G8.dQ _⟩
def og (x:fJ):ak:=(Zq x).map (·.slot)
def ve (x:fJ) (i:Nat):Nat:=(List.range i).countP λj:Nat=>decide ((j:Int)∈x.free)
def wq (x:fJ) (i:Nat):Nat:=(List.range i).countP λj:Nat=> !decide ((j:Int)∈x.free)&& !decide ((j:Int)∈og x)
def F7 (x:fJ) (b:Int):ah:=[.int .i64 ((Zq x).length:Nat),.int .i64 (x.aM.length:Nat),.int .i64 (ve x x.aK.length:Nat),.int .i64 (wq x x.aK.length:Nat),.int .i64 b]
def Io (P:Nat->Bool) (i:Nat):(List.range (i+1)).countP P=(List.range i).countP P+(bif P i then 1 else 0):=by
 rw[qw,List.countP_append];cases h:P i<;>simp[h]
def Zv7 (P:Nat->Bool) (i:Nat):(List.range i).countP P<=i:=by
 have:=List.countP_le_length (p:=P) (l:=List.range i);rwa [List.length_range]at this
def ZpJ (n:Nat) (x:fJ) (p1 p2 p3:ai) (b:Int) (st:St) (hr:lf st x p1 p2 p3) (sz:Dj x) (hn:60000<=n):
  Ok (λo=>∃s',o=(.val [.agg (F7 x b)],s')/\aB st s') (run Bd n 347 [.agg (dE x 2 p1 1 p2 1 p3),.int .i64 b] st):=by
 obtain⟨n,rfl⟩: ∃m,n=m+1:=⟨n-1,by omega⟩;have h1:=sz.h.len;have he:=sz.e;have h3:=sz.g;have h4:=sz.f;rw[Ze,h.agv];unfold RH Zx cP Dx L9 aA bq Zn Bo xN Bw dY zD Lb;have Aw:=Zji n x 2 1 1 p1 p2 p3 st (.inl rfl) (.inl rfl) (.inl rfl) hr (by omega) he;rw[dT];unfold dE at Aw⊢;simp only[av,aX,aq];refine Ok.call Aw ?_;rintro _ ⟨q,s1,rfl,aH,dA⟩;refine⟨_,s1,rfl,?_⟩;simp only[aX,aq];have dS:=hr.fr.mono aH;refine Ok.join λaz nA=>?_
 refine Zi _ (λq y t=>∃(i:Nat),y=[.agg [.int .i64 ((Zq x).length:Nat),.int .i64 (x.aM.length:Nat),.int .i64 (ve x i:Nat),.int .i64 (wq x i:Nat),.int .i64 b],.int .i64 (i:Int)]/\i<=x.aK.length/\x.aK.length-i<=q/\t=s1) ?_ x.aK.length n _ _ ⟨0,rfl,cz _,by omega,rfl⟩ (by omega);rintro q9 y s1 ⟨i,rfl,hi,hq,rfl⟩ rec aN;rw[dT];simp only[av,aq];by_cases aw:i<x.aK.length
 .rw[ax (show(i:Int)<(x.aK.length:Int) by omega),ae]
  refine Ok.join λaI jU=>?_
  have ep:=Zv7 (λj:Nat=>decide ((j:Int)∈x.free)) i;have akr:=Zv7 (λj:Nat=> !decide ((j:Int)∈x.free)&& !decide ((j:Int)∈og x)) i;refine Ok.join λaW kK=>?_
  have fin:Ok (λo=>∃s',o=(.val [.agg (F7 x b)],s')/\aB st s') (aW [.bool (decide ((i:Int)∈og x))] s1):=by
   rw[kK];simp only[au,aq];refine Ok.call (Br n 1 x.free i p3 s1 (.inl rfl) dS) ?_;rintro _ rfl;refine⟨_,s1,rfl,?_⟩;simp only[au,aq];have go: ∀a c:Nat,a=ve x (i+1)->c=wq x (i+1)->Ok (λo=>∃s',o=(.val [.agg (F7 x b)],s')/\aB st s') (aI [.agg [.int .i64 ((Zq x).length:Nat),.int .i64 (x.aM.length:Nat),.int .i64 (a:Nat),.int .i64 (c:Nat),.int .i64 b]] s1):=by
    rintro _ _ rfl rfl;rw[jU];simp only[ZN,av,aq];rw[Zc];exact aN (x.aK.length-(i+1)) _ _ (by omega) (by grind)
   have mW:ve x (i+1)=ve x i+(bif decide ((i:Int)∈x.free)then 1 else 0):=Io _ _;have G7:wq x (i+1)=wq x i+(bif !decide ((i:Int)∈x.free)&& !decide ((i:Int)∈og x)then 1 else 0):=Io _ _;have cG:ar ((ve x i:Int)+1)=((ve x i+1:Nat):Int):=Zc (by unfold ve;omega) (by unfold ve;omega);have fR:ar ((wq x i:Int)+1)=((wq x i+1:Nat):Int):=Zc (by unfold wq;omega) (by unfold wq;omega);rw[Za];cases hm:decide ((i:Int)∈x.free)with
   |true=>
    rw[hm]at mW G7;rw[ae];simp only[ZN,av,aq];rw[cG];grind
   |false=>
    rw[hm]at mW G7;rw[af,Za];cases hs:decide ((i:Int)∈og x)with
    |false=>
     rw[hs]at G7;rw[bn,ae];simp only[ZN,av,aq];rw[fR];grind
    |true=>
     rw[hs]at G7;rw[br,af];simp only[ZN,av,aq];grind
  refine Zi _ (λq y u=>∃(k:Nat),y=[.bool (decide ((i:Int)∈(og x).take k)),.int .i64 (k:Int)]/\k<=(Zq x).length/\(Zq x).length-k<=q/\u=s1) ?_ (Zq x).length n _ _ ⟨0,by simp,cz _,by omega,rfl⟩ (by omega);rintro q8 y s1 ⟨k,rfl,hk,hq8,rfl⟩ dw j3;simp only[au,av,aq];have hlen:(og x).length=(Zq x).length:=nQ _;by_cases fY:k<(Zq x).length
  .rw[ax (show(k:Int)<((Zq x).length:Int) by omega),ae]
   refine Ok.join λdp Oh=>?_
   have fZ:(og x).take (k+1)=(og x).take k++[(Zq x)[k].slot]:=by
    rw[lV (by omega)];simp[og]
   have go: ∀c,c=decide ((i:Int)∈(og x).take (k+1))->Ok (λo=>∃s',o=(.val [.agg (F7 x b)],s')/\aB st s') (dp [.bool c] s1):=by
    rintro _ rfl;rw[Oh];simp only[au,aq];rw[Zc];exact j3 ((Zq x).length-(k+1)) _ _ (by omega) (by grind)
   cases eN:decide ((i:Int)∈(og x).take k)with
   |true=>
    rw[ae];grind
   |false=>
    rw[af];obtain⟨i1,o1,rfl⟩:=dA.cH (by rw[Zt];omega);have N5:=ZyG (l:=Zq x) (k:=k) (x:=(Zq x)[k]) (by grind) (m:=0) (by omega);have ld: ∀K:DV->M ah,bD i1 (k*4+o1) K s1=K (.int .i64 (Zq x)[k].slot) s1:=λK=>by
     have:=dA.get N5 K;rwa [gV]at this
    rw[bd,Zb (Zj fY)];simp only[bp];rw[ld];simp only[bg];grind
  grind
 .rw[aF (show ¬(i:Int)<(x.aK.length:Int) by omega),af,nA]
  simp only[ZN,av,aq,Zd];have:i=x.aK.length:=by omega
  subst this;exact .mk ⟨_,rfl,aH⟩
def Zre {l:ak} (hn:l.Nodup) (hr: ∀k∈l,0<=k/\k<(n:Int)):(List.range n).countP (λj:Nat=>decide ((j:Int)∈l))=l.length:=by
 rw[List.countP_eq_length_filter];have hA:(((List.range n).filter λj:Nat=>decide ((j:Int)∈l)).map λj:Nat=>(j:Int)).Nodup:=by
  refine List.Pairwise.map _ (λa b h=>?_) (List.nodup_range.filter _);omega
 have hL:=nQ (λj:Nat=>(j:Int)) (as:=(List.range n).filter λj:Nat=>decide ((j:Int)∈l));refine Nat.le_antisymm ?_ ?_
 .rw[<-hL]
  refine xO hA λk hk=>?_
  grind
 .rw[<-hL]
  refine xO hn λk hk=>?_
  have:=hr k hk;refine pK.2 ⟨k.toNat,EX.2 ⟨uu.2 (by omega),ax ?_⟩,by omega⟩;rw[Int.toNat_of_nonneg this.1];exact hk
def ZqU {x:fJ} (hd: ∀k,k∈x.free->k∉og x): ∀i:Nat,wq x i+ve x i+(List.range i).countP (λj:Nat=>decide ((j:Int)∈og x))=i
 |0=>rfl
 |i+1=>by
  have ih:=ZqU hd i;have a:ve x (i+1)=_:=Io _ _;have b:wq x (i+1)=_:=Io _ _;have c:=Io (λj:Nat=>decide ((j:Int)∈og x)) i;have:=hd i;rw[a,b,c];change (List.range i).countP _+(List.range i).countP _+_=i at ih;by_cases h1:(i:Int)∈x.free
  .grind
  grind
def Zpa: ∀(l:List dO) (a:Nat),a+(l.map λh=>h.cj.length).sum<1000000->xL l (a:Int)=((a+(l.map λh=>h.cj.length).sum:Nat):Int)
 |[],a,_=>rfl
 |h::r,a,hb=>by
  rw[oG,List.sum_cons]at hb;unfold xL;rw[Bb,Zc,<-C3];have:=Zpa r (a+h.cj.length) (by omega);grind[xL]
def Zyt {x:cy} (h:HL img x v):F7 (fh x v) ((dq (x.aJ.foldl (bK x.blocks.toNat) v.W)).length:Nat)=IX x v:=by
 obtain⟨hx,hb,_,W2,ox,Yh,sz,Cy,hm⟩:=h;obtain⟨g1,g2,_⟩:=Z4 hx.g;obtain⟨n1,n2,n3⟩:=rO.1 hm.nodup;have r1: ∀k∈og (fh x v),0<=k/\k<((fh x v).aK.length:Int):=λk hk=>hm.range k (List.mem_append_left _ hk)
 have r2: ∀k∈(fh x v).free,0<=k/\k<((fh x v).aK.length:Int):=λk hk=>hm.range k (Lh _ hk)
 have c1:_=(og (fh x v)).length:=Zre n1 r1;have c2:ve (fh x v) (fh x v).aK.length=_:=Zre n2 r2;have c3:=ZqU (x:=fh x v) (λk h1 h2=>n3 k h2 k h1 rfl) (fh x v).aK.length;have hl:(og (fh x v)).length=(Zq (fh x v)).length:=nQ _;have Aw:(Zq (fh x v)).length=(v.aM.map λh=>h.cj.length).sum:=by
  show((v.aM.map (·.cj)).flatten).length=_;rw[List.length_flatten,Bf];rfl
 have he:=sz.e;have hg:=sz.g;have e1:xL v.aM 0=((Zq (fh x v)).length:Nat):=by
  have:=Zpa v.aM 0 (by omega);rw[Aw];rw[show((0:Nat):Int)=0 from rfl]at this;rw[this,eW]
 obtain⟨q1,q2⟩:=ZF x.blocks.toNat x.aJ v.W;have e2:BQ (x.aJ.foldl (bK x.blocks.toNat) v.W)=((dq (x.aJ.foldl (bK x.blocks.toNat) v.W)).length:Nat):=by
  have:=Zpm (x.aJ.foldl (bK x.blocks.toNat) v.W) 0 0 (q2 Yh) (by rw[q1,ox];omega);unfold BQ dq;rw[show((0:Nat):Int)=0 from rfl,eW]at this;exact this
 have ep:(fh x v).free=v.free:=rfl;have jm:(fh x v).aK=v.aK:=rfl;have tY:(fh x v).aM=v.aM:=rfl;unfold F7 IX;rw[e1,e2,c2,tY,ep];rw[hl]at c1;rw[c1,c2]at c3;rw[jm,ep]at c3;rw[jm]at hg⊢;congr 4;rw[Zc (x:=((v.aK.length:Nat):Int)-_),Zc];congr 1;omega
def Znw {x:cy} (h:l8 img=(some (x,v),e)):e=0/\HL img x v:=by
 unfold l8 at h;cases hp:vF img with
 |none=>rw[hp]at h;cases h
 |some y=>
  rw[hp]at h;have hw:=ZoZ (img:=img) (ZsI hp);grind
def Zun (h:l8 img=(none,e)):e≠0:=by
 grind[l8]
def acE (s:St):lf s nK none none none:=⟨⟨[],rfl,rfl⟩,rfl,rfl⟩
def Zos (n:Nat) (a:ai) (img:aj) (st:St) (ht:sa st) (ha:dc st a img) (hl:img.length<262144) (hn:95000<=n):
  Ok (λo=>∃s',o=(.val [.bool true],s')/\aB st s') (run Bd n 339 [.slice 1 a img.length] st):=by
 obtain⟨n,rfl⟩: ∃m,n=m+1:=⟨n-1,by omega⟩;rw[Ze,h.agq];unfold QS bV Zx Zhl H2 cP oe aA bq ZtA Ls aZ Lb Bm we;simp only[aX,aq];have lO: ∀K:ah->M ah,dy a img.length K st=K (bU img) st:=λK=>by
  have:=iR (show Sl _ a (bU img)from ha) K;rwa [Zu]at this
 rw[lO,<-ll,oJ];obtain⟨R,hR⟩: ∃R,l8 img=R:=⟨_,rfl⟩;have Kr:=Zqu n img st (by omega) (by omega);have jS:=λs1 (hp:aB st s1)=>Q2 n a img s1 (ht.mono hp) (ha.mono hp) hl (λx v e he=>by have:=(Znw he).2.2.2.2.2.2.2.2.2.DZ;have e:(fh x v).aM=v.aM:=rfl;rw[e]at this;omega)
 have cg:=λs1 (hp:aB st s1)=>Zqp n a img s1 (ht.mono hp) (ha.mono hp) hl (by omega)
 have jc:=λs1 (hp:aB st s1)=>Zr2 n a img s1 (ht.mono hp) (ha.mono hp) hl (by omega)
 rw[hR]at Kr jS cg jc;refine Ok.call Kr ?_;rintro o ⟨s1,aH,ho⟩;obtain⟨r,e⟩:=R;cases r with
 |none=>
  have he:=Zun hR;obtain⟨a1,a2,a3,a4,a5,a6,a7,a8,z,p,m,hz,rfl⟩:=ho;refine⟨_,s1,rfl,?_⟩;unfold dE AQ;simp only[ZN,av,Zg 2 0 none _ (.inr rfl),Zg 1 0 none _ (.inr rfl),Zg 1 z p _ hz,aq];refine Ok.call (jS s1 aH) ?_;rintro o ⟨s2,aU,rfl⟩;refine⟨_,s2,rfl,?_⟩;unfold Vm;simp only[ZN,av,aq];have iP:=aH.trans aU;refine Ok.call (cg s2 iP) ?_;rintro o ⟨s3,cu,rfl⟩;refine⟨_,s3,rfl,?_⟩;have uc:=iP.trans cu;unfold dE;simp only[ZN,av,aX,aq];refine Ok.call (jc s3 uc) ?_;rintro o ⟨s4,fw,rfl⟩;refine⟨_,s4,rfl,?_⟩;have En:=uc.trans fw;simp only[av,Zg 1 0 none _ (.inr rfl),aq];have Oa:(!(e==e))=false:=by rw[xq];rfl
  rw[Za,Oa,af];simp only[au,aq];rw[Za,af];simp only[au,aq];rw[af,show(!(e==0))=true by rw[eG.2 he];rfl,ae,Za,show((0:Int)==0)=true from rfl];simp only[vO,ae];have OP:=ZlR n nK nK 2 1 1 none none none 0 0 0 none none none s4 (.inl rfl) (.inl rfl) (.inl rfl) (.inr rfl) (.inr rfl) (.inr rfl) (acE s4) (acE s4) ⟨⟨cz _,(λg hg=>nomatch hg),(λg hg=>nomatch hg)⟩,cz _,cz _,cz _⟩;refine Ok.call OP ?_;rintro _ ⟨b,rfl,hb⟩;refine⟨_,s4,rfl,?_⟩;rw[hb.2 rfl];simp only[au,aq];rw[Za,ae];simp only[au,aq];rw[Zd];exact .mk ⟨s4,rfl,En⟩
 |some q=>
  obtain⟨x,v⟩:=q;obtain⟨rfl,_⟩:=Znw hR;obtain⟨hW,p2,p3,p4,pc,q,rfl,eX,vB⟩:=ho;obtain⟨hx,_,_,_,ox,Yh,sz,_,_⟩:=id hW;refine⟨_,s1,rfl,?_⟩;have D9:=λb s (hp:aB s1 s)=>ZpJ n (fh x v) p2 p3 p4 b s (eX.pre hp) sz (by omega)
  have kN:=λ(q2 q3 q4:ai) s (hp:aB s1 s) (hh:lf s (fh x v) q2 q3 q4)=>ZlR n (fh x v) (fh x v) 2 1 1 q2 q3 q4 2 1 1 p2 p3 p4 s (.inl rfl) (.inl rfl) (.inl rfl) (.inl rfl) (.inl rfl) (.inl rfl) hh (eX.pre hp) sz
  unfold dE at D9 kN;unfold dE dj;simp only[ZN,av,aX,aq];refine Ok.call (jS s1 aH) ?_;rintro o ⟨s2,aU,rfl⟩;refine⟨_,s2,rfl,?_⟩;have iP:=aH.trans aU;have pY:=Zyt hW;unfold IX at pY⊢;simp only[ZN,av,aq];refine Ok.call (cg s2 iP) ?_;rintro o ⟨s3,cu,q2,q3,q4,rfl,aiA⟩;refine⟨_,s3,rfl,?_⟩;have uc:=iP.trans cu;unfold dE;simp only[ZN,av,aX,aq];refine Ok.call (jc s3 uc) ?_;rintro o ⟨s4,fw,pu,rfl,hu4⟩;refine⟨_,s4,rfl,?_⟩;have En:=uc.trans fw;simp only[av,aX,aq];have Oa:(!((0:Int)==0))=false:=rfl;rw[Za,Oa,af];simp only[au,aq];rw[Za,af];simp only[au,aq];rw[af,af];refine Ok.cn (D9 _ s4 (aU.trans (cu.trans fw))) λs5 jY=>?_
  rw[pY];have ahZ:=En.trans jY;simp only[ZN,av,aq];simp only[xq,vO,ae];rw[Za];refine Ok.call (kN q2 q3 q4 s5 (aU.trans (cu.trans (fw.trans jY))) (aiA.pre (fw.trans jY))) ?_;rintro _ ⟨b,rfl,hb⟩;refine⟨_,s5,rfl,?_⟩;rw[hb.2 rfl];simp only[au,aq];rw[Za,ae];have hlen:(dq (x.aJ.foldl (bK x.blocks.toNat) v.W)).length<=50000:=by
   obtain⟨g1,g2,_⟩:=Z4 hx.g;obtain⟨q1,q2⟩:=ZF x.blocks.toNat x.aJ v.W;have:=Rx (x.aJ.foldl (bK x.blocks.toNat) v.W) (x.aJ.foldl (bK x.blocks.toNat) v.W).length;rw[rR,q1,ox]at this;omega
  refine Ok.call (Q5 n _ _ pu q s5 (hu4.mono jY) (vB.mono (aU.trans (cu.trans (fw.trans jY)))) (by omega) hlen) ?_;rintro _ rfl;refine⟨_,s5,rfl,?_⟩;rw[ax rfl];simp only[au,aq];rw[Zd];exact .mk ⟨s5,rfl,ahZ⟩
end Go.Gv.F
