/- Numbers and blocks, read (the document's). -/
import Derived.Test.YtegglibipjjblaaGreatDoorGvBMk
import Derived.Test.YtegglibipjjblaaGreatDoorGvZMg
import Derived.Test.YtegglibipjjblaaGreatDoorGvZMf
namespace Go.Gv.F
open Go.Gv
variable {β:Type}
variable {Bd:Zh} [h:HA Bd]
theorem Zot (n:Nat) (s:aj) (st:St) (hl:s.length<=8) (hn:s.length+3<=n):Ok (λo=>o=(.val [.int .u64 ((eY s:Nat):Int)],st)) (run Bd n 310 [.str s] st):=by
 obtain⟨n,rfl⟩: ∃k,n=k+1:=⟨n-1,by omega⟩;rw[Ze,h.adF];unfold Pc kW CA EB nv ZE;simp only[bP,aq];refine Ok.join λaA oN=>?_
 have key: ∀i,i<=s.length->eY (s.drop i)<256^(s.length-i):=λi hi=>by
  have:=EF (s.drop i);rwa [dT]at this
 refine Zj _ (λq y t=>∃i:Nat,y=[.int .u64 ((eY (s.drop i):Nat):Int),.int .i64 ((i:Int)-1)]/\i<=s.length/\i<=q/\t=st) ?_ s.length n _ _ ⟨s.length,by rw[List.drop_length,Zc];rfl,aL _,aL _,rfl⟩ (by omega);rintro q y t ⟨i,rfl,hi,hq,rfl⟩ rec aP;simp only[av,aq];by_cases h0:i=0
 .subst h0
  rw[aB (by omega),af,oN];simp only[av,aq,Zd];exact .mk rfl
 .rw[aw (show(i:Int)-1>=0 by omega),ae,Za,aw (show(i:Int)-1<8 by omega),ae]
  obtain⟨j,rfl⟩: ∃j,i=j+1:=⟨i-1,by omega⟩;have hj:j<s.length:=by omega
  rw[show((j+1:Nat):Int)-1=((j:Nat):Int) by omega,Zb (Zi hj)];simp only[av,aq];have hd:s.drop j=s[j]::s.drop (j+1):=iI hj;have ax:=key (j+1) (by omega);have hp:256^(s.length-(j+1))<=256^7:=l9 (by decide) (by omega);have h7:(256:Nat)^7=72057594037927936:=by decide
  have hb:ZP s (j:Int)=(s[j].toNat:Int):=by
   unfold ZP;rw[bu,dX,bU hj];rfl
  have hsj:=s[j].toNat_lt;rw[hb,IntWalk.u64_in (((eY (s.drop (j+1)):Nat):Int)*256) (by omega),IntWalk.u64_in (s[j].toNat:Int) (by omega),IntWalk.u64_in _ (by omega),Zc];refine aP j _ _ (by omega) ⟨j,?_,by omega,aL _,rfl⟩;rw[hd];show _=[DV.int .u64 ((s[j].toNat+256*eY (s.drop (j+1)):Nat):Int),_];rw[show((eY (s.drop (j+1)):Nat):Int)*256+(s[j].toNat:Int)=((s[j].toNat+256*eY (s.drop (j+1)):Nat):Int) by omega]
theorem Ad (n:Nat) (s:aj) (st:St) (hl:s.length<=8) (hn:12<=n:=by omega):run Bd n 292 [.str s] st=some (.val [.int .i64 (ar ((eY s:Nat):Int))],st):=by
 obtain⟨n,rfl⟩: ∃k,n=k+1:=⟨n-1,by omega⟩;rw[Ze,h.ads];unfold Qq kW As Ls Li;simp only[bP,aq];obtain⟨o,e,rfl⟩:=Zot n s st hl (by omega);rw[Zk e];simp only[av,aq,Zd]
variable {m top w:Int} {l:List bA} {es:List bh} {d i j k k' lim n t t' v:Nat} {s s' s0:St} {cs ds:ah} {b' img:aj} {ns pg r:ak} {T:al} {e:bh}
theorem Co (b:aj) {a:Nat} :ar ((eY ((b.take (a+k)).drop a):Nat):Int)=cW b a k:=by
 unfold cW rd;rw[BJ,show a+k-a=k by omega]
theorem Ct {b:aj} {a:Nat} (hk:k<=8:=by omega):((b.take (a+k)).drop a).length<=8:=by
 rw[dT,cz];omega
theorem Zue {l:aj} (pK:l.length=64) (h4:l.getD 4 0≠0):(iE ((l.getD 4 0).toNat:Nat) ((l.getD 5 0).toNat:Nat) (l.drop 8)==l)=rK l:=by
 rw[iQ,kU];constructor
 .intro e
  have hk:0<(l.getD 4 0).toNat:=by
   rcases yl (l.getD 4 0).toNat with h|h
   .exact absurd (DS.1 (show(l.getD 4 0).toNat=(0:UInt8).toNat from h)) h4
   .exact h
  have:=K2 hk (UInt8.toNat_lt _) (UInt8.toNat_lt (l.getD 5 0)) (b:=l.drop 8) (by rw[dT];omega);rw[e]at this;unfold fY at this;cases hr:rK l with
  |true=>rfl
  |false=>rw[hr]at this;cases this
 .intro hr
  have:fY l=some ((l.getD 4 0).toNat,(l.getD 5 0).toNat,l.drop 8):=by
   unfold fY;rw[hr];rfl
  exact(uc this).1.symm
def zy (l:aj):ah:=match fY l with
 |none=>[.int .i64 0,.int .i64 0,.str [],.bool false]
 |some (k,t,b)=>[.int .i64 (k:Int),.int .i64 (t:Int),.str b,.bool true]
theorem GA (n:Nat) (p:ai) (l:aj) (st:St) (hs:dz st p l) (hl:l.length=64) (hn:300<=n:=by omega):
  Ok (λo=>∃s',o=(.val (zy l),s')/\aD st s') (run Bd n 291 [.slice 1 p 64] st):=by
 obtain⟨n,rfl⟩: ∃k,n=k+1:=⟨n-1,by omega⟩;rw[Ze,h.adr];unfold Qc ck az lM jJ Lb pC;simp only[bc,aq];obtain⟨i,o,rfl⟩:=hs.cD (by omega);have g4:l[4]? =some (l.getD 4 0):=by rw[dX,bU (by omega)];rfl
 have g5:l[5]? =some (l.getD 5 0):=by rw[dX,bU (by omega)];rfl
 have hw: ∀c:UInt8,ar ((c.toNat:Nat):Int)=((c.toNat:Nat):Int):=λc=>by
  have:=c.toNat_lt;exact Zc
 have Wm: ∀(K:DV->M ah) (t:St),dz t (some (i,o)) l->bG i (4+o) K t=K (.int .u8 (l.getD 4 0).toNat) t:=λK t ht=>ht.get g4 K
 have ld5: ∀(K:DV->M ah) (t:St),dz t (some (i,o)) l->bG i (5+o) K t=K (.int .u8 (l.getD 5 0).toNat) t:=λK t ht=>ht.get g5 K
 have r8: ∀(K:ah->M ah) (t:St),dz t (some (i,o)) l->da (cU true (some (i,o)) 8) (64-8) K t=K (bK (l.drop 8)) t:=λK t ht=>by
  have h8:=ht.cU (k:=8) (by omega);have:=iD (show Sl _ _ (bK (l.drop 8))from h8) K;rwa [Zq,dT,hl]at this
 have rl: ∀(K:ah->M ah) (t:St),dz t (some (i,o)) l->da (some (i,o)) 64 K t=K (bK l) t:=λK t ht=>by
  have:=iD (show Sl _ _ (bK l)from ht) K;rwa [Zq,hl]at this
 have bad:rK l=false->∀s',aD st s'->Ok (λo=>∃s',o=(.val (zy l),s')/\aD st s') ((ay [.int .i64 0,.int .i64 0,.str (bs []),.bool false]:M ah) s'):=λhr s' hp=>by
  rw[Zd];refine .mk ⟨s',?_,hp⟩;unfold zy fY;rw[hr];rfl
 rw[Za,show(!(((64:Nat):Int)==64))=false from rfl,af,aX,Zb (show aQ 4 64=true from rfl),Wm _ _ hs];simp only[aY,au,aq];rw[Za];by_cases h4:l.getD 4 0=0
 .rw[h4,show((((0:UInt8).toNat:Nat):Int)==0)=true from rfl,ae]
  simp only[au,aq];rw[ae];refine bad ?_ st (.refl _);unfold rK;rw[h4];simp
 .have h40:((((l.getD 4 0).toNat:Nat):Int)==0)=false:=dY.2 λe=>h4 (DS.1 (show(l.getD 4 0).toNat=(0:UInt8).toNat by show _=0;omega))
  rw[h40,af,aX,Zb (show aQ 4 64=true from rfl),Wm _ _ hs];simp only[aY];rw[aX,Zb (show aQ 5 64=true from rfl),ld5 _ _ hs];simp only[aY];rw[Zb (aw (by omega)),r8 _ _ hs,<-lq,oh,hw,hw];refine Ok.mn (zW n _ _ (l.drop 8) (by rw[dT];omega) st (by rw[dT];omega)) ?_;rintro _ ⟨s1,rfl,aG⟩;refine⟨_,s1,rfl,aG,?_⟩;have fm:=hs.mono aG;simp only[bP,aq];rw[rl _ _ fm,<-lq,oh,Zue hl h4];simp only[au,aq];cases hr:rK l with
  |false=>
   rw[bp,ae];exact bad hr s1 aG
  |true=>
   rw[bm,af,aX,Zb (show aQ 4 64=true from rfl),Wm _ _ fm];simp only[aY];rw[aX,Zb (show aQ 5 64=true from rfl),ld5 _ _ fm];simp only[aY];rw[Zb (aw (by omega)),r8 _ _ fm,<-lq,oh,hw,hw,Zd];refine .mk ⟨s1,?_,aG⟩;unfold zy fY;rw[hr];rfl
theorem Hg {b:aj} (j9:0<k) (hk:k<256) (ht:t<256) (aeC:0<k') (xH:k'<256) (qQ:t'<256) (h:b.length<=56) (h':b'.length<=56:=by omega):iE k t b=iE k' t' b'↔k=k'/\t=t'/\ju b 56=ju b' 56:=by
 constructor
 .intro e
  have h1:=K2 j9 hk ht h;rw[e,K2 aeC xH qQ h']at h1;grind
 .grind[iE,oU]
theorem KY {b:aj} (h:b.length=56):ju b 56=b:=by
 simp_all[ju,lf]
theorem KU {b:aj} (h:b.length=56) (hn:n<=56:=by omega):ju (b.take n) 56=b↔ZI (b.drop n)=true:=by
 have hl:(b.take n).length=n:=by rw[cz];omega
 have hd:(b.drop n).length=56-n:=by rw[dT];omega
 unfold ju;rw[hl];constructor
 .intro e
  have:b.drop n=lf (56-n):=by
   have h1:=nu n b;rw[<-e]at h1;grind
  rw[this];exact ZjY _
 .intro e
  have:=RK e;rw[hd]at this;rw[<-this,nu]
theorem Zxi (h:v<18446744073709551616):eN (ar (v:Int))=v:=by
 grind[eN,ar,IntKind.wrap_i64]
theorem Al {b:aj} {a:Nat} (hk:k<=8:=by omega) (h:a+k<=b.length:=by omega):dF (eN (cW b a k)) k=(b.drop a).take k:=by
 unfold cW;have ax:=NL b a k;have hp:256^k<=256^8:=l9 (by decide) hk;have h8:(256:Nat)^8=18446744073709551616:=by decide
 rw[Zxi (by omega)];unfold rd;have hl:((b.drop a).take k).length=k:=by rw[cz,dT];omega
 have:=SD ((b.drop a).take k);rwa [hl]at this
theorem Zqh (b:aj) (a m k:Nat):(b.drop a).take m++(b.drop (a+m)).take k=(b.drop a).take (m+k):=by
 rw[wH,jX]
theorem Ky {b:aj} {a:Nat} : ∀(n:Nat),a+2*n<=b.length->iZ ((List.range n).map λj=>cW b (a+2*j) 2)=(b.drop a).take (2*n)
 |0,_=>rfl
 |n+1,h=>by
  have e:iZ ((List.range (n+1)).map λj=>cW b (a+2*j) 2)=iZ ((List.range n).map λj=>cW b (a+2*j) 2)++dF (eN (cW b (a+2*n) 2)) 2:=by
   simp[iZ,vj,fg,Gb]
  rw[e,Ky n (by omega),Al,Zqh,show 2*n+2=2*(n+1) by omega]
theorem ZrP {b:aj} (h:2*n<=b.length:=by omega):iZ (dP b n)=b.take (2*n):=by
 have:=Ky (b:=b) (a:=0) n (by omega);rw[dj]at this;rw[<-this];simp[dP]
theorem Zn9 {b:aj} (t:Nat): ∀(n:Nat),8*n<=b.length->nB (ZM b t n)=b.take (8*n)
 |0,_=>rfl
 |n+1,h=>by
  have app: ∀(l:List bA) (x:bA),nB (l++[x])=nB l++(dF (eN x.gen) 4++dF (eN x.block) 4):=λl x=>by
   induction l with
   |nil=>simp[nB]
   |cons y l ih=>simp[nB,ih]
  rw[GI,app,Zn9 t n (by omega)];show _++(dF (eN (cW b (8*n) 4)) 4++dF (eN (cW b (8*n+4) 4)) 4)=_;rw[Al,Al,Zqh b (8*n) 4 4,show 8*(n+1)=8*n+8 by omega];grind
theorem Zsf: ∀(l:List bA) (x:bA) (k:Nat),jc k (l++[x])=jc k l+(bif x.live then 2^(k+l.length)else 0)
 |[],x,k=>by simp[jc]
 |y::l,x,k=>by
  rw[nr];unfold jc;rw[Zsf l x (k+1),cH,show k+1+l.length=k+(l.length+1) by omega];omega
theorem ZqL (b:aj) (t:Nat): ∀n,jc 0 (ZM b t n)=t%2^n
 |0=>by simp[ZM,jc,Nat.mod_one]
 |n+1=>by
  rw[GI,Zsf,ZqL b t n,Aa,ej];show t%2^n+(bif fF t n then 2^n else 0)=_;have h:=Nat.mod_pow_succ (b:=2) (k:=n) (x:=t);rw[h];grind[fF]
theorem Zvu {b:aj} (h:b.length=56) (ht:t<=12):NB (lK b t)=b.take (24+2*t):=by
 unfold NB lK oo;simp only;rw[Al,Al,Al,Al,Ky t (by omega),dj];have e1:b.take 8++(b.drop 8).take 8=b.take 16:=by rw[<-wH]
 have e2:b.take 16++(b.drop 16).take 4=b.take 20:=by rw[<-wH]
 have e3:b.take 20++(b.drop 20).take 4=b.take 24:=by rw[<-wH]
 rw[e1,e2,e3,<-wH]
theorem Zus {b:aj} (h:b.length=56) (ht:t<=28):dF (eN ((Z1 b t).mask:Int)) 4++iZ (Z1 b t).df++(Z1 b t).name=b.take (28+t):=by
 unfold Z1 ZT;simp only;have ax:=NL b 0 4;have e0:((rd b 0 4:Nat):Int)=cW b 0 4:=by
  unfold cW;exact(Zc (by omega) (by have:(256:Nat)^4=4294967296:=(by decide);omega)).symm
 rw[e0,Al,Ky 12 (by omega),dj];have e1:b.take 4++(b.drop 4).take (2*12)=b.take 28:=by rw[<-wH]
 rw[e1,<-wH]
theorem ZlG (k:Int):jg k=lh k 2 3071:=by
 simp[jg,lh]
theorem Zt0 (x:bA):wx x=ZJ x:=by
 unfold wx ZJ;rw[ZlG];cases x.live with
 |true=>
  rw[ae,ae];grind[lh]
 |false=>
  rw[af,af];grind[lh]
theorem Zu2 {l b:aj} (ho:fY l=some (3,t,b)):Z0 l=(bif (match um (dP b 16)with|none=>false|some c=>c==l)then some (dP b 16)else none):=by
 obtain⟨h1,h2,h3,h4⟩:=uc ho;have hr:Am (dP b 16)=(dP b 16).all λk=>k==0||jg k:=by
  simp[Am,ZlG]
 unfold Z0 um;rw[ho,<-hr];simp only;cases hrf:Am (dP b 16)with
 |false=>
  rw[af,af];simp
 |true=>
  rw[ae,ae];have key:(iE 3 0 (iZ (dP b 16))==l)=(decide (t=0)&&ZI (b.drop 32)):=by
   rw[ZrP,iQ,kU,aR,bq]
   conv=>lhs;rhs;rw[h1]
   have:=Hg (k:=3) (t:=0) (k':=3) (t':=t) (b:=b.take (2*16)) (b':=b) (by omega) (by omega) (by omega) (by omega) (by omega) h4 (by rw[cz];omega);rw[show((3:Nat):Int)=3 from rfl,show((0:Nat):Int)=0 from rfl]at this;rw[show((3:Nat):Int)=3 from rfl,this,KY h2,KU h2];grind
  grind
theorem Zt7 {l b:aj} (ho:fY l=some (2,t,b)):ZH l=(bif (match wW (ZM b t 7)with|none=>false|some c=>c==l)then some (ZM b t 7)else none):=by
 obtain⟨h1,h2,h3,h4⟩:=uc ho;have hr:(ZM b t 7).all ZJ=(ZM b t 7).all wx:=by
  grind[Zt0]
 unfold ZH wW;rw[ho];simp only;rw[hr];cases hrf:(ZM b t 7).all wx with
 |false=>
  rw[af,af];simp
 |true=>
  rw[ae,ae];have key:(iE 2 ((jc 0 (ZM b t 7):Nat):Int) (nB (ZM b t 7))==l)=decide (t<128):=by
   rw[Zn9 t 7 (by omega),ZqL,iQ,kU,bq]
   conv=>lhs;rhs;rw[h1]
   have:=Hg (k:=2) (t:=t%2^7) (k':=2) (t':=t) (b:=b.take (8*7)) (b':=b) (by omega) (by omega) (by omega) (by omega) (by omega) h4 (by rw[cz];omega);rw[show((2:Nat):Int)=2 from rfl]at this;rw[show((2:Nat):Int)=2 from rfl,this,dq (show b.length<=8*7 by omega)];simp
  grind
theorem ZuB {l b:aj} (ho:fY l=some (1,t,b)) (ht:t<=12):iz l=(bif ot (lK b t)&&wq (lK b t)==l then some (lK b t)else none):=by
 obtain⟨h1,h2,h3,h4⟩:=uc ho;have key:(wq (lK b t)==l)=ZI (b.drop (24+2*t)):=by
  have gA:(lK b t).kids.length=t:=Cc b t;unfold wq;rw[Zvu h2 ht,gA,iQ,kU]
  conv=>lhs;rhs;rw[h1]
  have:=Hg (k:=1) (t:=t) (k':=1) (t':=t) (b:=b.take (24+2*t)) (b':=b) (by omega) (by omega) h4 (by omega) (by omega) h4 (by rw[cz];omega);rw[show((1:Nat):Int)=1 from rfl]at this;rw[show((1:Nat):Int)=1 from rfl,this,KY h2,KU h2];simp
 grind[iz]
theorem Zs1 {l b:aj} (ho:fY l=some (5,t,b)) (ht:t<=28):ZD l=(bif mO (Z1 b t)&&x0 (Z1 b t)==l then some (Z1 b t)else none):=by
 obtain⟨h1,h2,h3,h4⟩:=uc ho;have MW:(Z1 b t).name.length=t:=by
  show((b.drop 28).take t).length=t;rw[cz,dT];omega
 have key:(x0 (Z1 b t)==l)=ZI (b.drop (28+t)):=by
  unfold x0;rw[Zus h2 ht,MW,iQ,kU]
  conv=>lhs;rhs;rw[h1]
  have:=Hg (k:=5) (t:=t) (k':=5) (t':=t) (b:=b.take (28+t)) (b':=b) (by omega) (by omega) h4 (by omega) (by omega) h4 (by rw[cz];omega);rw[show((5:Nat):Int)=5 from rfl]at this;rw[show((5:Nat):Int)=5 from rfl,this,KY h2,KU h2];simp
 unfold ZD;rw[ho,key];simp only;cases hr:mO (Z1 b t)with
 |false=>
  rw[af,eG,af];simp
 |true=>
  have h24:t<=24:=by
   have h5:=hr;unfold mO at h5;rw[aR]at h5;have:=Zuk h5.1;omega
  rw[aw h24];simp
theorem ZuF (l:ak):Es l=(decide (1<=l.length)&&(decide (l.length<=16)&&rV l l.length)):=by
 have key: ∀n,n<=l.length->((List.range n).all λi=>rQ (l.getD i 0)&& !decide (l.getD i 0∈l.take i))=rV l n:=by
  intro n;induction n with
  |zero=>intro _;rfl
  |succ n ih=>
   intro hn;rw[vj,rj,ih (by omega)];unfold rV;have hb:rQ (l.getD n 0)=jg (l.getD n 0):=by
    grind[rQ,jg]
   rw[<-hb];grind[rV]
 grind[Es]
theorem ZvU {l b:aj} (ho:fY l=some (6,t,b)) (ht:t<=16):kD l=(bif (match xf (dP b t)with|none=>false|some c=>c==l)then some (dP b t)else none):=by
 obtain⟨h1,h2,h3,h4⟩:=uc ho;have key:(iE 6 ((dP b t).length:Int) (iZ (dP b t))==l)=ZI (b.drop (2*t)):=by
  rw[ZrP,om,iQ,kU]
  conv=>lhs;rhs;rw[h1]
  have:=Hg (k:=6) (t:=t) (k':=6) (t':=t) (b:=b.take (2*t)) (b':=b) (by omega) (by omega) h4 (by omega) (by omega) h4 (by rw[cz];omega);rw[show((6:Nat):Int)=6 from rfl]at this;rw[show((6:Nat):Int)=6 from rfl,this,KY h2,KU h2];simp
 unfold kD xf;rw[ho];simp only;rw[ZuF,aw ht];grind
theorem Zom (n:Nat) (p:ai) (l:aj) (st:St) (hs:dz st p l) (hl:l.length=64) (hn:500<=n):
  Ok (λo=>∃s',aD st s'/\match Z0 l with
   |none=>o=(.val [.agg (ints (List.replicate 16 0)),.bool false],s')
   |some x=>o=(.val [.agg (ints x),.bool true],s')/\x.length=16) (run Bd n 308 [.slice 1 p 64] st):=by
 obtain⟨n,rfl⟩: ∃m,n=m+1:=⟨n-1,by omega⟩;rw[Ze,h.adD];unfold PV ck w8 az tR cA cQ bD Lb Ls Li;simp only[bc,aq];refine Ok.call (GA n p l st hs hl) ?_;rintro _ ⟨s1,rfl,aG⟩;refine⟨_,s1,rfl,?_⟩;have fm:=hs.mono aG;obtain⟨Q,hQ⟩: ∃Q:Out ah×St->Prop,(λo=>∃s',aD st s'/\match Z0 l with
   |none=>o=(.val [.agg (ints (List.replicate 16 0)),.bool false],s')
   |some x=>o=(.val [.agg (ints x),.bool true],s')/\x.length=16)=Q:=⟨_,rfl⟩
 have bad: ∀s',aD st s'->Z0 l=none->Ok Q ((ay [.agg (List.replicate 16 (.int .i64 0)),.bool false]:M ah) s'):=λs' hp hg=>by
  rw[Zd,<-hQ];refine .mk ⟨s',hp,?_⟩;rw[hg];rfl
 rw[hQ];unfold zy;cases ho:fY l with
 |none=>
  simp only[av,bP,au,aq];rw[Za,bp,ae];simp only[au,aq];rw[ae];exact bad s1 aG (by unfold Z0;rw[ho])
 |some q=>
  obtain⟨k,t,b⟩:=q;obtain⟨_,hb,_,_⟩:=uc ho;simp only[av,bP,au,aq];rw[Za,bm,af,nE k 3 3 rfl];simp only[au,aq];by_cases hk:k=3
  .subst hk
   rw[aw rfl,bm,af];refine Ok.join λaI j8=>?_
   refine Zj _ (λq y s=>∃i:Nat,y=[.agg (ints (dP b i)++ints (List.replicate (16-i) 0)),.int .i64 i]/\i<=16/\16-i<=q/\s=s1) ?_ 16 n _ _ ⟨0,rfl,by omega,by omega,rfl⟩ (by omega);rintro q _ s ⟨i,rfl,hi,hq,rfl⟩ rec aP;have hlen:(ints (dP b i)++ints (List.replicate (16-i) 0)).length=16:=by
    simp[ints,om];omega
   simp only[cJ,av,aq];rw[bF hlen];by_cases ax:i<16
   .have cG:ar ((i:Int)+1)=((i+1:Nat):Int):=Zc
    have jO:ar (2*(i:Int))=((2*i:Nat):Int):=Zc;have ko:ar (((2*i:Nat):Int)+2)=((2*i+2:Nat):Int):=Zc;simp only[cG,jO,ko,bu,cP];rw[aw (show(i:Int)<16 by omega),ae];rw[Zb (by rw[aR,bq,bq];omega),Zb (by rw[aR,bq,bq];omega)];rw[Zk (Ad n _ s (Ct)),Co];simp only[av,aq];rw[Zb (show aQ (i:Int) 16=true from Zi ax),Zb (gf (by omega))];refine aP (16-(i+1)) _ _ (by omega) ⟨i+1,?_,by omega,aL _,rfl⟩;congr 2;rw[KE,show List.replicate (16-i) (0:Int)=0::List.replicate (16-(i+1)) 0 by rw[show 16-i=(16-(i+1))+1 by omega];rfl];have e3:i=(ints (dP b i)).length:=by simp[ints,om]
    have e4:=rN (ints (dP b i)) [.int .i64 0] (ints (List.replicate (16-(i+1)) 0)) [.int .i64 (cW b (2*i) 2)] rfl;rw[<-e3]at e4;show cw (ints (dP b i)++([.int .i64 0]++ints (List.replicate (16-(i+1)) 0))) i [.int .i64 (cW b (2*i) 2)]=ints (dP b i++[cW b (2*i) 2])++_;rw[e4,show ints (dP b i++[cW b (2*i) 2])=ints (dP b i)++[.int .i64 (cW b (2*i) 2)] by unfold ints;rw[fg];rfl,fD]
   .rw[aB (show ¬(i:Int)<16 by omega),af]
    have pP:i=16:=by omega
    subst pP;rw[show ints (dP b 16)++ints (List.replicate (16-16) 0)=ints (dP b 16)from gG _]at hlen⊢;subst j8;simp only[cJ,aq];rw[bF hlen];refine Ok.call (P7 n (dP b 16) (om b 16) s) ?_;rintro _ ⟨s2,rfl,aZ⟩;refine⟨_,s2,rfl,?_⟩;have cN:=Zu2 ho;cases Bm:um (dP b 16)with
    |none=>
     rw[Bm]at cN;show Ok Q (eE [.str [],.bool false] _ s2);simp only[bP,au,aq];rw[Za,bp,ae];simp only[au,aq];rw[ae];exact bad s2 (aG.trans aZ) cN
    |some c=>
     rw[Bm]at cN;simp only at cN;show Ok Q (eE [.str c,.bool true] _ s2);simp only[bP,au,aq];rw[Za,bm,af];have rl: ∀(K:ah->M ah),da p 64 K s2=K (bK l) s2:=λK=>by
      have:=iD (show Sl _ _ (bK l)from fm.mono aZ) K;rwa [Zq,hl]at this
     rw[rl,<-lq,oh];simp only[au,aq];cases cL:(c==l)with
     |false=>
      rw[cL]at cN;rw[bp,ae];exact bad s2 (aG.trans aZ) cN
     |true=>
      rw[cL]at cN;rw[bm,af,bF hlen,Zd,<-hQ];refine .mk ⟨s2,aG.trans aZ,?_⟩;rw[cN];exact⟨rfl,om b 16⟩
  .rw[aB hk,bp,ae]
   refine bad s1 aG ?_;unfold Z0;rw[ho];simp only;rw[aB hk];rfl
theorem ZpW:(bR nc:ah)=[.bool false,.int .i64 0,.int .i64 0,.bool false,.int .i64 0,.int .i64 0,.bool false,.int .i64 0,.int .i64 0,.bool false,.int .i64 0,.int .i64 0,.bool false,.int .i64 0,.int .i64 0,.bool false,.int .i64 0,.int .i64 0,.bool false,.int .i64 0,.int .i64 0]:=rfl
theorem Zm1 (n:Nat) (p:ai) (l:aj) (st:St) (hs:dz st p l) (hl:l.length=64) (hn:500<=n):
  Ok (λo=>∃s',aD st s'/\match ZH l with
   |none=>o=(.val [.agg (bR nc),.bool false],s')
   |some x=>o=(.val [.agg (bR x),.bool true],s')/\x.length=7) (run Bd n 309 [.slice 1 p 64] st):=by
 obtain⟨n,rfl⟩: ∃m,n=m+1:=⟨n-1,by omega⟩;rw[Ze,h.adE];unfold Pm ck w8 az tR cA mK bD ZG Lb Ls rC Z9;simp only[bc,aq];rw[<-ZpW];refine Ok.call (GA n p l st hs hl) ?_;rintro _ ⟨s1,rfl,aG⟩;refine⟨_,s1,rfl,?_⟩;have fm:=hs.mono aG;obtain⟨Q,hQ⟩: ∃Q:Out ah×St->Prop,(λo=>∃s',aD st s'/\match ZH l with
   |none=>o=(.val [.agg (bR nc),.bool false],s')
   |some x=>o=(.val [.agg (bR x),.bool true],s')/\x.length=7)=Q:=⟨_,rfl⟩
 have bad: ∀s',aD st s'->ZH l=none->Ok Q ((ay [.agg (bR nc),.bool false]:M ah) s'):=λs' hp hg=>by
  rw[Zd,<-hQ];refine .mk ⟨s',hp,?_⟩;rw[hg]
 rw[hQ];unfold zy;cases ho:fY l with
 |none=>
  simp only[av,bP,au,aq];rw[Za,bp,ae];simp only[au,aq];rw[ae];exact bad s1 aG (by unfold ZH;rw[ho])
 |some q=>
  obtain⟨k,t,b⟩:=q;obtain⟨_,hb,_,ht⟩:=uc ho;simp only[av,bP,au,aq];rw[Za,bm,af,nE k 2 2 rfl];simp only[au,aq];by_cases hk:k=2
  .subst hk
   rw[aw rfl,bm,af];refine Ok.join λaI j8=>?_
   refine Zj _ (λq y s=>∃i:Nat,y=[.agg (bR (ZM b t i)++bR (List.replicate (7-i) jl)),.int .i64 i]/\i<=7/\7-i<=q/\s=s1) ?_ 7 n _ _ ⟨0,rfl,by omega,by omega,rfl⟩ (by omega);rintro q _ s ⟨i,rfl,hi,hq,rfl⟩ rec aP;have hlen:(bR (ZM b t i)++bR (List.replicate (7-i) jl)).length=21:=by
    rw[bz,Zz,Zz,Aa,vh];omega
   simp only[cJ,av,aq];rw[bF hlen];by_cases ax:i<7
   .have cG:ar ((i:Int)+1)=((i+1:Nat):Int):=Zc
    have jO:ar (8*(i:Int))=((8*i:Nat):Int):=Zc;have ko:ar (((8*i:Nat):Int)+4)=((8*i+4:Nat):Int):=Zc;have qS:ar (((8*i:Nat):Int)+8)=((8*i+4+4:Nat):Int):=Zc;have aZ:2^i<=2^6:=l9 (by decide) (by omega);have VG:=BO i;have hw6:ar (1*2^(min i 64))=((2^i:Nat):Int):=by
     rw[kT (by omega),Int.one_mul,show((2:Int)^i)=((2^i:Nat):Int) by simp];exact Zc
    simp only[cG,jO,ko,qS,bu,hw6];have ad6:((ar (((t:Nat):Int).tdiv ((2^i:Nat):Int))).tmod 2==1)=fF t i:=by
     rw[show(((t:Nat):Int).tdiv ((2^i:Nat):Int))=((t/2^i:Nat):Int)from rfl];unfold fF;have hd:t/2^i<=t:=DL _ _;generalize t/2^i=d at hd;rw[Zc,show((d:Nat):Int).tmod 2=((d%2:Nat):Int)from rfl];exact nE _ 1 1 rfl
    rw[aw (show(i:Int)<7 by omega),ae];rw[Zb (aw (by omega)),Zb (by rw[dY.2 (by omega)];rfl),Zb (by rw[aR,bq,bq];omega),Zb (by rw[aR,bq,bq];omega)];rw[wY (Ad n _ s (Ct)),Co];simp only[av,aq];rw[Zb (by rw[aR,bq,bq];omega),Zb (by rw[aR,bq,bq];omega)];rw[wY (Ad n _ s (Ct)),Co];simp only[av,aq];rw[ad6,Zb (show aQ (i:Int) 7=true from Zi ax),Zb (gf (by omega))];refine aP (7-(i+1)) _ _ (by omega) ⟨i+1,?_,by omega,aL _,rfl⟩;congr 2;have e2:List.replicate (7-i) jl=jl::List.replicate (7-(i+1)) jl:=by rw[show 7-i=(7-(i+1))+1 by omega];rfl
    have e3:i*3=(bR (ZM b t i)).length:=by rw[Zz,Aa]
    have e4:=rN (bR (ZM b t i)) (ez jl) (bR (List.replicate (7-(i+1)) jl)) (ez (vy b t i)) rfl;rw[<-e3]at e4;rw[GI,G3,e2];show cw (bR (ZM b t i)++(ez jl++bR (List.replicate (7-(i+1)) jl))) (i*3) (ez (vy b t i))=(bR (ZM b t i)++bR [vy b t i])++_;rw[e4,fD];congr 1
   .rw[aB (show ¬(i:Int)<7 by omega),af]
    have pP:i=7:=by omega
    subst pP;rw[show bR (ZM b t 7)++bR (List.replicate (7-7) jl)=bR (ZM b t 7)from gG _]at hlen⊢;subst j8;simp only[cJ,aq];rw[bF hlen];refine Ok.call (ZkV n (ZM b t 7) (Aa b t 7) s) ?_;rintro _ ⟨s2,rfl,aZ⟩;refine⟨_,s2,rfl,?_⟩;have cN:=Zt7 ho;cases Bm:wW (ZM b t 7)with
    |none=>
     rw[Bm]at cN;show Ok Q (eE [.str [],.bool false] _ s2);simp only[bP,au,aq];rw[Za,bp,ae];simp only[au,aq];rw[ae];exact bad s2 (aG.trans aZ) cN
    |some c=>
     rw[Bm]at cN;simp only at cN;show Ok Q (eE [.str c,.bool true] _ s2);simp only[bP,au,aq];rw[Za,bm,af];have rl: ∀(K:ah->M ah),da p 64 K s2=K (bK l) s2:=λK=>by
      have:=iD (show Sl _ _ (bK l)from fm.mono aZ) K;rwa [Zq,hl]at this
     rw[rl,<-lq,oh];simp only[au,aq];cases cL:(c==l)with
     |false=>
      rw[cL]at cN;rw[bp,ae];exact bad s2 (aG.trans aZ) cN
     |true=>
      rw[cL]at cN;rw[bm,af,bF hlen,Zd,<-hQ];refine .mk ⟨s2,aG.trans aZ,?_⟩;rw[cN];exact⟨rfl,Aa b t 7⟩
  .rw[aB hk,bp,ae]
   refine bad s1 aG ?_;unfold ZH;rw[ho];simp only;rw[aB hk];rfl
theorem ZpB (k:Int):Dp k= !jg k:=by
 unfold Dp jg;by_cases h1:k<2
 .rw[aw h1,aB (show ¬k>=2 by omega)];rfl
 .rw[aB h1,aw (show k>=2 by omega)]
  by_cases h2:k>=3072
  .rw[aw h2,aB (show ¬k<=3071 by omega)];rfl
  .rw[aB h2,aw (show k<=3071 by omega)];rfl
theorem ZuW (x:jo):ot x=((bif (bif (bif decide (x.bH.slot>=0)then decide (x.bH.slot<=1791)else false)then decide (x.bH.gen>=1)else false)then decide (x.bH.gen<=4294967295)else false)&&decide ((x.kids.length:Int)<=12)&&x.kids.all jg):=by
 have hk:(!x.kids.any Dp)=x.kids.all jg:=by
  rw[iQ,kR,List.any_eq_false,lA];constructor
  .intro h k hk
   have:=h k hk;rw[ZpB]at this;simpa using this
  .intro h k hk
   rw[ZpB,h k hk];decide
 unfold ot;rw[hk];congr 1;rw[iQ];simp only[aR,kR,wF,ry,DG,bq];omega
theorem ZoL (n:Nat) (x:jo) (z:Nat) (p:ai) (st:St) (hz:z=1\/p=none) (hs:Sl st p (ints x.kids)) (hl:x.kids.length<1000) (hn:x.kids.length+10<=n):
  Ok (λo=>o=(.val [.bool (ot x)],st)) (run Bd n 319 [.agg (nR x z p)] st):=by
 obtain⟨n,rfl⟩: ∃m,n=m+2:=⟨n-2,by omega⟩;rw[Ze,h.adN];unfold Qi D6 az cA Zn bd Lb Li DU;rw[dt];unfold nR eR;simp only[nr,gU,av,Zg 1 z p _ hz,aq];refine Ok.join λaA oN=>?_
 have go: ∀c:Bool,c=(bif (bif (bif decide (x.bH.slot>=0)then decide (x.bH.slot<=1791)else false)then decide (x.bH.gen>=1)else false)then decide (x.bH.gen<=4294967295)else false)->
   Ok (λo=>o=(.val [.bool (ot x)],st)) (cY (λaV st=>
      gW st λBz st=>
      aF .i64 st λi st=>
      aJ st<|
      cK (λst=>gW st λb5 st=>aJ st<|
       bif b5 then
       bJ p λi1 o=>
      aC (aQ i x.kids.length)<|
      bG i1 (i.toNat*1+o) λd=>
      cT .i64 d λx=>
      c9 (run Bd (n+1) 251 [.int .i64 x]) λds=>
      gW ds λx1 ds=>
      aJ ds<|
      aV [.bool x1,.int .i64 (ar (i+1))]
      else
       (ay [.bool Bz]:M ah)) λdw=>
      bif decide (i<(x.kids.length:Int))then
       dw [.bool Bz]
      else
       dw [.bool false]) (n+1) [.bool (c&&decide ((x.kids.length:Int)<=12)),.int .i64 0] st):=λc hc=>by
  rw[ZuW,<-hc];generalize (c&&decide ((x.kids.length:Int)<=12))=e;refine Zj _ (λq y t=>∃i:Nat,y=[.bool (e&&(x.kids.take i).all jg),.int .i64 (i:Int)]/\i<=x.kids.length/\x.kids.length-i<=q/\t=st) ?_ x.kids.length (n+1) _ _ ⟨0,by simp,cn _,by omega,rfl⟩ (by omega);rintro q y t ⟨i,rfl,hi,hq,rfl⟩ rec aP;simp only[au,av,aq];rw[Za];by_cases ax:i<x.kids.length
  .rw[aw (show(i:Int)<(x.kids.length:Int) by omega),ae]
   simp only[au,aq];have fJ:x.kids.take (i+1)=x.kids.take i++[x.kids[i]]:=kS ax;cases hb:(e&&(x.kids.take i).all jg)with
   |true=>
    obtain⟨i1,o1,rfl⟩:=hs.cD (by simp[ints];omega);have cZ:(ints x.kids)[i]? =some (.int .i64 x.kids[i]):=ZA ax;rw[ae,aX,Zb (Zi ax)];simp only[bu];rw[hs.dL cZ];simp only[aY];rw[Zk (GD n _ t)];simp only[au,aq];rw[Zc];refine aP (x.kids.length-(i+1)) _ _ (by omega) ⟨i+1,?_,by omega,aL _,rfl⟩;rw[aR]at hb;rw[fJ,rj,hb.1,hb.2];simp
   |false=>
    rw[af,Zd];refine .mk ?_;have:(e&&x.kids.all jg)=false:=by
     rw[Bool.and_eq_false_iff]at hb⊢;refine hb.imp id λhb=>?_
     rw[JJ]at hb⊢;obtain⟨k,hk,h2⟩:=hb;exact⟨k,List.mem_of_mem_take hk,h2⟩
    rw[this]
  .rw[aB (show ¬(i:Int)<(x.kids.length:Int) by omega),af]
   simp only[au,aq];rw[af,dq (by omega),Zd];exact .mk rfl
 subst oN;cases h1:decide (x.bH.slot>=0)with
 |true=>
  rw[ae];simp only[au,aq];have:=go (bif (bif decide (x.bH.slot<=1791)then decide (x.bH.gen>=1)else false)then decide (x.bH.gen<=4294967295)else false) (by rw[h1];rfl);rw[Za];cases h2:decide (x.bH.slot<=1791)with
  |true=>
   rw[h2]at this;simp only[ae,au,aq,Za]at this⊢;cases h3:decide (x.bH.gen>=1)with
   |true=>
    rw[h3]at this;simp only[ae,au,aq]at this⊢;cases h4:decide (x.bH.gen<=4294967295)with
    |true=>
     rw[h4]at this;simp only[ae,au,aq,de]at this⊢;exact this
    |false=>
     rw[h4]at this;simp only[af,au,aq,eG]at this⊢;exact this
   |false=>
    rw[h3]at this;simp only[af,au,aq,eG]at this⊢;exact this
  |false=>
   rw[h2]at this;simp only[af,au,aq,Za,eG]at this⊢;exact this
 |false=>
  rw[af];have:=go false (by rw[h1];rfl);simp only[af,au,aq,Za,eG]at this⊢;exact this
theorem ZrC (n:Nat) (p:ai) (l:aj) (st:St) (hs:dz st p l) (hl:l.length=64) (hn:3000<=n):
  Ok (λo=>∃s',aD st s'/\match iz l with
   |none=>o=(.val [.agg [.int .i64 0,.int .i64 0,.int .i64 0,.int .i64 0,.slice 0 none 0],.bool false],s')
   |some x=>∃q,o=(.val [.agg (nR x 1 q),.bool true],s')/\Fz s' q (ints x.kids)) (run Bd n 311 [.slice 1 p 64] st):=by
 obtain⟨n,rfl⟩: ∃m,n=m+1:=⟨n-1,by omega⟩;rw[Ze,h.adG];unfold QY ck w8 az vn En bd jJ D8 mK bD Ab Ls wR D9 Lb Li Eb Ec;simp only[bc,aq,Z5];refine Ok.call (GA n p l st hs hl) ?_;rintro _ ⟨s1,rfl,aG⟩;refine⟨_,s1,rfl,?_⟩;have fm:=hs.mono aG;obtain⟨Q,hQ⟩: ∃Q:Out ah×St->Prop,(λo=>∃s',aD st s'/\match iz l with
   |none=>o=(.val [.agg [.int .i64 0,.int .i64 0,.int .i64 0,.int .i64 0,.slice 0 none 0],.bool false],s')
   |some x=>∃q,o=(.val [.agg (nR x 1 q),.bool true],s')/\Fz s' q (ints x.kids))=Q:=⟨_,rfl⟩
 have bad: ∀s',aD st s'->iz l=none->Ok Q ((cu st.length [.agg [.int .i64 0,.int .i64 0,.int .i64 0,.int .i64 0,.slice 0 none 0],.bool false]:M ah) s'):=λs' hp hg=>by
  rw[Zs,<-hQ];refine .mk ⟨_,Zu hp,?_⟩;rw[hg]
 rw[hQ];unfold zy;cases ho:fY l with
 |none=>
  simp only[av,bP,au,aq];rw[Za,bp,ae];simp only[au,aq];rw[Za,ae];simp only[au,aq];rw[ae];exact bad s1 aG (by unfold iz;rw[ho])
 |some q=>
  obtain⟨k,t,b⟩:=q;obtain⟨_,hb,_,ht⟩:=uc ho;simp only[av,bP,au,aq];rw[Za,bm,af,nE k 1 1 rfl];simp only[au,aq];rw[Za];by_cases hk:k=1
  .subst hk
   rw[aw rfl,bm,af];simp only[au,aq];by_cases IS:t<=12
   .rw[aB (show ¬(t:Int)>12 by omega),af]
    have cN:=ZuB ho IS;have rn: ∀(a c:Nat),c<=8->run Bd n 292 [.str ((b.take (a+c)).drop a)] s1=some (.val [.int .i64 (cW b a c)],s1):=λa c hc=>by
     rw[Ad n _ s1 (Ct hc),Co]
    rw[Zb (aw (by omega)),rH (rn 16 4 (by omega)) (.refl _)];simp only[av,aq];rw[Zb (aw (by omega)),rH (rn 20 4 (by omega)) (.refl _)];simp only[av,aq];have r0:run Bd n 292 [.str (b.take 8)] s1=some (.val [.int .i64 (cW b 0 8)],s1):=by
     have:=rn 0 8 (by omega);rwa [dj]at this
    rw[Zb (aw (by omega)),rH r0 (.refl _)];simp only[av,aq];rw[Zb (aw (by omega)),rH (rn 8 8 (by omega)) (.refl _)];simp only[av,aq];refine Ok.join λaS mw=>?_
    refine Zj _ (λq y s=>∃(i z:Nat) (pk:ai),y=[.agg [.int .i64 (cW b 16 4),.int .i64 (cW b 20 4),.int .i64 (cW b 0 8),.int .i64 (cW b 8 8),.slice z pk i],.int .i64 i]/\(z=1\/pk=none)/\i<=t/\t-i<=q/\ba st s pk (ints (oo b i))/\dz s p l) ?_ t n _ _ ⟨0,0,none,rfl,.inr rfl,by omega,by omega,.nil aG,fm⟩ (by omega);rintro q _ s ⟨i,z,pk,rfl,hz,hi,hq,gC,xC⟩ rec aP;rw[dt];simp only[av,Zg 1 z pk _ hz,aq];have gA:(oo b i).length=i:=Cc b i;have jL:(ints (oo b i)).length=i*1:=by simp[ints,gA]
    by_cases ax:i<t
    .have cG:ar ((i:Int)+1)=((i+1:Nat):Int):=Zc
     have jO:ar (2*(i:Int))=((2*i:Nat):Int):=Zc;have ko:ar (26+((2*i:Nat):Int))=((24+2*i+2:Nat):Int):=by rw[Zc];omega
     have qS:ar (24+((2*i:Nat):Int))=((24+2*i:Nat):Int):=by rw[Zc];omega
     simp only[cG,jO,ko,qS,bu];rw[aw (show(i:Int)<(t:Int) by omega),ae];rw[Zb (by rw[aR,bq,bq];omega),Zb (by rw[aR,bq,bq];omega)];rw[wY (Ad n _ s (Ct (a:=24+2*i))),Co];simp only[av,aq];obtain⟨q2,s2,c8,uI⟩:=gC.push (β:=ah) (sz:=1) (n:=i) (lim:=8796093022208) [.int .i64 (cW b (24+2*i) 2)] (by omega) jL rfl (by omega);rw[uI];refine aP (t-(i+1)) _ _ (by omega) ⟨i+1,1,q2,rfl,.inl rfl,by omega,aL _,?_,?_⟩
     .rw[Zmu,show ints (oo b i++[cW b (24+2*i) 2])=ints (oo b i)++[.int .i64 (cW b (24+2*i) 2)] by unfold ints;rw[fg];rfl]
      exact c8
     .exact hs.mono c8.1
    .rw[aB (show ¬(i:Int)<(t:Int) by omega),af]
     have C0:i=t:=by omega
     subst C0;subst mw;show Ok Q (bn [DV.agg _] _ s);rw[dt];simp only[av,bc,aq];have dG:Sl s pk (ints (lK b i).kids):=gC.sl;have oO:(lK b i).kids.length=i:=gA;have oH:([.int .i64 (cW b 16 4),.int .i64 (cW b 20 4),.int .i64 (cW b 0 8),.int .i64 (cW b 8 8),.slice 1 pk i]:ah)=nR (lK b i) 1 pk:=by
      unfold nR eR lK;grind
     rw[oH];refine Ok.call (ZoL n (lK b i) 1 pk s (.inl rfl) dG (by omega) (by omega)) ?_;rintro _ rfl;refine⟨_,s,rfl,?_⟩;simp only[au,aq];rw[Za];cases hr:ot (lK b i)with
     |false=>
      rw[hr,eG,af]at cN;rw[bp,ae];simp only[au,aq];rw[ae];exact bad s gC.1 cN
     |true=>
      rw[hr,de]at cN;rw[bm,af];refine Ok.mn (ZlK n (lK b i) 1 pk s (.inl rfl) dG (by omega)) ?_;rintro _ ⟨s2,rfl,aZ⟩;refine⟨_,s2,rfl,aZ,?_⟩;simp only[bP,aq];have rl: ∀(K:ah->M ah),da p 64 K s2=K (bK l) s2:=λK=>by
       have:=iD (show Sl _ _ (bK l)from xC.mono aZ) K;rwa [Zq,hl]at this
      rw[rl,<-lq,oh];simp only[au,aq];have qO:=gC.mono aZ;cases cL:(wq (lK b i)==l)with
      |false=>
       rw[cL]at cN;rw[bp,ae];exact bad s2 qO.1 cN
      |true=>
       rw[cL,ae]at cN;rw[bm,af,Zs,<-hQ];refine .mk ⟨_,Zu qO.1,?_⟩;rw[cN];exact⟨pk,rfl,qO.fz⟩
   .rw[aw (show(t:Int)>12 by omega),ae]
    refine bad s1 aG ?_;unfold iz;rw[ho];grind
  .rw[aB hk,bp,ae]
   simp_all[iz]
theorem Zn1 (n:Nat) (p:ai) (l:aj) (st:St) (hs:dz st p l) (hl:l.length=64) (hn:3000<=n):
  Ok (λo=>∃s',aD st s'/\match kD l with
   |none=>o=(.val [.slice 0 none 0,.bool false],s')
   |some x=>∃q,o=(.val [.slice 1 q x.length,.bool true],s')/\Sl s' q (ints x)/\x.length<=16) (run Bd n 269 [.slice 1 p 64] st):=by
 obtain⟨n,rfl⟩: ∃m,n=m+1:=⟨n-1,by omega⟩;rw[Ze,h.adb];unfold O6 ck w8 az gk tR lJ cQ bD tT Lb Ls Li eW j1;simp only[bc,aq,Z5];refine Ok.call (GA n p l st hs hl) ?_;rintro _ ⟨s1,rfl,aG⟩;refine⟨_,s1,rfl,?_⟩;obtain⟨Q,hQ⟩: ∃Q:Out ah×St->Prop,(λo=>∃s',aD st s'/\match kD l with
   |none=>o=(.val [.slice 0 none 0,.bool false],s')
   |some x=>∃q,o=(.val [.slice 1 q x.length,.bool true],s')/\Sl s' q (ints x)/\x.length<=16)=Q:=⟨_,rfl⟩
 have bad: ∀s',aD st s'->kD l=none->Ok Q ((cu st.length [.slice 0 none 0,.bool false]:M ah) s'):=λs' hp hg=>by
  rw[Zs,<-hQ];refine .mk ⟨_,Zu hp,?_⟩;rw[hg]
 rw[hQ];unfold zy;cases ho:fY l with
 |none=>
  simp only[av,bP,au,aq];rw[Za,bp,ae];simp only[au,aq];rw[Za,ae];simp only[au,aq];rw[ae];exact bad s1 aG (by unfold kD;rw[ho])
 |some q=>
  obtain⟨k,t,b⟩:=q;obtain⟨_,hb,_,ht⟩:=uc ho;simp only[av,bP,au,aq];rw[Za,bm,af,nE k 6 6 rfl];simp only[au,aq];rw[Za];by_cases hk:k=6
  .subst hk
   rw[aw rfl,bm,af];simp only[au,aq];by_cases IS:t<=16
   .rw[aB (show ¬(t:Int)>16 by omega),af]
    have cN:=ZvU ho IS;refine Ok.join λaS mw=>?_
    refine Zj _ (λq y s=>∃(i z:Nat) (pk:ai),y=[.slice z pk i,.int .i64 i]/\(z=1\/pk=none)/\i<=t/\t-i<=q/\ba st s pk (ints (dP b i))) ?_ t n _ _ ⟨0,0,none,rfl,.inr rfl,by omega,by omega,.nil aG⟩ (by omega);rintro q _ s ⟨i,z,pk,rfl,hz,hi,hq,gC⟩ rec aP;simp only[av,Zg 1 z pk _ hz,aq];have gA:(dP b i).length=i:=om b i;have jL:(ints (dP b i)).length=i*1:=by simp[ints,gA]
    by_cases ax:i<t
    .have cG:ar ((i:Int)+1)=((i+1:Nat):Int):=Zc
     have jO:ar (2*(i:Int))=((2*i:Nat):Int):=Zc;have ko:ar (((2*i:Nat):Int)+2)=((2*i+2:Nat):Int):=by rw[Zc];omega
     simp only[cG,jO,ko,bu];rw[aw (show(i:Int)<(t:Int) by omega),ae];rw[Zb (by rw[aR,bq,bq];omega),Zb (by rw[aR,bq,bq];omega)];rw[Zk (Ad n _ s (Ct (a:=2*i))),Co];simp only[av,aq];obtain⟨q2,s2,c8,uI⟩:=gC.push (β:=ah) (sz:=1) (n:=i) (lim:=8796093022208) [.int .i64 (cW b (2*i) 2)] (by omega) jL rfl (by omega);rw[uI];refine aP (t-(i+1)) _ _ (by omega) ⟨i+1,1,q2,rfl,.inl rfl,by omega,aL _,?_⟩;rw[KE,show ints (dP b i++[cW b (2*i) 2])=ints (dP b i)++[.int .i64 (cW b (2*i) 2)] by unfold ints;rw[fg];rfl];exact c8
    .rw[aB (show ¬(i:Int)<(t:Int) by omega),af]
     have C0:i=t:=by omega
     subst C0;subst mw;simp only[bc,aq];have hdc:=Zll n (dP b i) 1 pk s (.inl rfl) gC.sl;rw[gA]at hdc;refine Ok.call hdc ?_;rintro _ ⟨s2,rfl,aZ⟩;refine⟨_,s2,rfl,?_⟩;have qO:=gC.mono aZ;cases Bm:xf (dP b i)with
     |none=>
      rw[Bm]at cN;show Ok Q (eE [.str [],.bool false] _ s2);simp only[bP,au,aq];rw[Za,bp,ae];simp only[au,aq];rw[ae];exact bad s2 qO.1 cN
     |some c=>
      rw[Bm]at cN;simp only at cN;show Ok Q (eE [.str c,.bool true] _ s2);simp only[bP,au,aq];rw[Za,bm,af];have rl: ∀(K:ah->M ah),da p 64 K s2=K (bK l) s2:=λK=>by
       have:=iD (show Sl _ _ (bK l)from hs.mono qO.1) K;rwa [Zq,hl]at this
      rw[rl,<-lq,oh];simp only[au,aq];cases cL:(c==l)with
      |false=>
       rw[cL]at cN;rw[bp,ae];exact bad s2 qO.1 cN
      |true=>
       rw[cL]at cN;rw[bm,af,Zs,<-hQ];refine .mk ⟨_,Zu qO.1,?_⟩;rw[cN];exact⟨pk,by rw[gA],qO.sl.fN _,by omega⟩
   .rw[aw (show(t:Int)>16 by omega),ae]
    refine bad s1 aG ?_;unfold kD;rw[ho];grind
  .rw[aB hk,bp,ae]
   simp_all[kD]
theorem Zvx (k:Int):rQ k=jg k:=by
 grind[rQ,jg]
theorem Zpq (n:Nat) (x:ZC) (st:St) (hl:x.df.length=12) (hm:x.mask<4294967296) (hs:x.name.length<1000) (hn:x.name.length+30<=n):
  Ok (λo=>∃s',o=(.val [.bool (mO x)],s')/\aD st s') (run Bd n 293 [.agg (ZW x)] st):=by
 obtain⟨n,rfl⟩: ∃m,n=m+2:=⟨n-2,by omega⟩;rw[Ze,h.adt];unfold Qo bd az Q_ gP Ls Lb fV Li;rw[dt];unfold ZW;have jL:(ints x.df).length=12:=by simp[ints,hl]
 simp only[bP,av];rw[bF jL];simp only[aq];rw[bF (by grind)];refine Ok.call (ZjS (n+1) x.name (by omega) (by omega) st) ?_;rintro _ ⟨s1,rfl,aG⟩;refine⟨_,s1,rfl,?_⟩;simp only[au,aq];have bad:mO x=false->Ok (λo=>∃s',o=(.val [.bool (mO x)],s')/\aD st s') ((ay [.bool false]:M ah) s1):=λhr=>by
  rw[Zd];exact .mk ⟨s1,by rw[hr],aG⟩
 rw[Za];cases mA:rI x.name with
 |false=>
  rw[bp,ae];simp only[au,aq];rw[Za,ae];simp only[au,aq];rw[ae];exact bad (by grind[mO])
 |true=>
 rw[bm,af,aB (show ¬((x.mask:Nat):Int)<0 by omega)];simp only[au,aq];rw[Za,af];by_cases h4:((x.mask:Nat):Int)>4095
 .rw[aw h4]
  simp only[au,aq];rw[ae];grind[mO]
 rw[aB h4];simp only[au,aq];rw[af];have hq:mO x=(List.range 12).all λi=>qH x.mask i (x.df.getD i 0):=by
  grind[mO]
 refine Ok.join λaS mw=>?_
 refine Zj _ (λq y t=>∃i:Nat,y=[.int .i64 ((x.mask/2^i:Nat):Int),.int .i64 (i:Int)]/\i<=12/\12-i<=q/\t=s1/\∀j,j<i->qH x.mask j (x.df.getD j 0)=true) ?_ 12 (n+1) _ _ (by grind) (by omega);rintro q y t ⟨i,rfl,hi,hqi,rfl,cS⟩ rec aP;simp only[av,aq];by_cases ax:i<12
 .have cZ:(ints x.df)[i]? =some (.int .i64 (x.df.getD i 0)):=by
   rw[ZA,dX,bU (by omega)];rfl
  obtain⟨w,hw⟩: ∃w,x.df.getD i 0=w:=⟨_,rfl⟩;obtain⟨m,kJ⟩: ∃m,x.mask/2^i=m:=⟨_,rfl⟩;have gK:x.mask/2^(i+1)=m/2:=by rw[vm,<-Nat.div_div_eq_div_mul,kJ]
  have ahu:m<=x.mask:=by rw[<-kJ];exact DL _ _
  have hhf:qH x.mask i w=bif decide (m%2=1)then jg w else w==0:=by
   unfold qH fF;rw[kJ,Zvx]
  rw[hw]at cZ;rw[kJ,aw (show(i:Int)<12 by omega),ae];have e0:(((m:Nat):Int).tmod 2==0)=decide (m%2=0):=by
   rw[show((m:Nat):Int).tmod 2=((m%2:Nat):Int)from rfl];exact nE _ 0 0 rfl
  have e1:(((m:Nat):Int).tmod 2==1)=decide (m%2=1):=by
   rw[show((m:Nat):Int).tmod 2=((m%2:Nat):Int)from rfl];exact nE _ 1 1 rfl
  rw[e0,e1];have yN:qH x.mask i w=true->Ok (λo=>∃s',o=(.val [.bool (mO x)],s')/\aD st s') (rec [.int .i64 (ar (((m:Nat):Int).tdiv 2)),.int .i64 (ar ((i:Int)+1))] t):=λhf=>by
   rw[show((m:Nat):Int).tdiv 2=((m/2:Nat):Int)from rfl,Zc,Zc];refine aP (12-(i+1)) _ _ (by omega) ⟨i+1,by rw[gK];rfl,by omega,aL _,rfl,λj hj=>?_⟩;by_cases kH:j=i
   .rw[kH,hw];exact hf
   grind
  rw[Za];by_cases M1:m%2=1
  .rw[aw M1,ae]at hhf
   rw[aB (show ¬m%2=0 by omega),af];simp only[au,aq];rw[Za,af,Za,aw M1,ae,Zb (show aQ (i:Int) 12=true from Zi ax)];simp only[bu,cP];rw[hU cZ];simp only[aY];rw[Zk (GD n w t)];simp only[au,aq];grind
  .rw[aB M1,af]at hhf
   rw[aw (show m%2=0 by omega),ae,Zb (show aQ (i:Int) 12=true from Zi ax)];simp only[bu,cP];rw[hU cZ];simp only[aY,au,aq];rw[Za];cases hz:(w==0)with
   |true=>
    rw[bm,af,Za,aB M1,af];simp only[au,aq];rw[af];grind
   |false=>
    rw[bp,ae];simp only[au,aq];rw[ae];grind
 .rw[aB (show ¬(i:Int)<12 by omega),af,mw]
  simp only[aq,Zd];refine .mk ⟨t,?_,aG⟩;grind
theorem Zr6 (n:Nat) (p:ai) (l:aj) (st:St) (hs:dz st p l) (hl:l.length=64) (hn:3000<=n):
  Ok (λo=>∃s',aD st s'/\match ZD l with
   |none=>o=(.val [.agg (ZW CC),.bool false],s')
   |some x=>o=(.val [.agg (ZW x),.bool true],s')/\x.df.length=12) (run Bd n 270 [.slice 1 p 64] st):=by
 obtain⟨n,rfl⟩: ∃m,n=m+1:=⟨n-1,by omega⟩;rw[Ze,h.ade];unfold Q9 ck w8 az vn bd jJ cA cQ bD DZ Ls Lb Li D3;simp only[bc,aq];refine Ok.call (GA n p l st hs hl) ?_;rintro _ ⟨s1,rfl,aG⟩;refine⟨_,s1,rfl,?_⟩;have fm:=hs.mono aG;obtain⟨Q,hQ⟩: ∃Q:Out ah×St->Prop,(λo=>∃s',aD st s'/\match ZD l with
   |none=>o=(.val [.agg (ZW CC),.bool false],s')
   |some x=>o=(.val [.agg (ZW x),.bool true],s')/\x.df.length=12)=Q:=⟨_,rfl⟩
 have hq0:(ZW CC:ah)=[.str (bs []),.int .i64 0,.int .i64 0,.int .i64 0,.int .i64 0,.int .i64 0,.int .i64 0,.int .i64 0,.int .i64 0,.int .i64 0,.int .i64 0,.int .i64 0,.int .i64 0,.int .i64 0]:=rfl;rw[<-hq0];have bad: ∀s',aD st s'->ZD l=none->Ok Q ((ay [.agg (ZW CC),.bool false]:M ah) s'):=λs' hp hg=>by
  rw[Zd,<-hQ];refine .mk ⟨s',hp,?_⟩;rw[hg]
 rw[hQ];unfold zy;cases ho:fY l with
 |none=>
  simp only[av,bP,au,aq];rw[Za,bp,ae];simp only[au,aq];rw[Za,ae];simp only[au,aq];rw[ae];exact bad s1 aG (by grind[ZD])
 |some q=>
  obtain⟨k,t,b⟩:=q;obtain⟨_,hb,_,ht⟩:=uc ho;simp only[av,bP,au,aq];rw[Za,bm,af,nE k 5 5 rfl];simp only[au,aq];rw[Za];by_cases hk:k=5
  .subst hk
   rw[aw rfl,bm,af];simp only[au,aq];by_cases IS:t<=28
   .rw[aB (show ¬(t:Int)>28 by omega),af]
    have cN:=Zs1 ho IS;have r0:run Bd n 292 [.str (b.take 4)] s1=some (.val [.int .i64 ((rd b 0 4:Nat):Int)],s1):=by
     rw[Ad n _ s1 (by rw[cz];omega)];have e:eY (b.take 4)=rd b 0 4:=by unfold rd;rw[dj]
     have ax:=NL b 0 4;rw[e,Zc]
    rw[Zb (aw (by omega)),rH r0 (.refl _)];simp only[av,aq];have afO:ar (28+(t:Int))=((28+t:Nat):Int):=by rw[Zc];omega
    rw[afO,Zb (by rw[aR,bq,bq];omega),Zb (aw (by omega))];simp only[bu];have mA:(b.take (28+t)).drop 28=(b.drop 28).take t:=by rw[BJ,show 28+t-28=t by omega]
    rw[mA];refine Ok.join λaS mw=>?_
    refine Zj _ (λq y s=>∃i:Nat,y=[.agg (DV.str ((b.drop 28).take t)::DV.int .i64 ((rd b 0 4:Nat):Int)::(ints (ZT b i)++ints (List.replicate (12-i) 0))),.int .i64 i]/\i<=12/\12-i<=q/\s=s1) ?_ 12 n _ _ ⟨0,rfl,by omega,by omega,rfl⟩ (by omega);rintro q _ s ⟨i,rfl,hi,hq,rfl⟩ rec aP;have hlen:(ints (ZT b i)++ints (List.replicate (12-i) 0)).length=12:=by
     simp[ints,Cb];omega
    rw[dt];simp only[bP,av];rw[bF hlen];simp only[av,aq];by_cases ax:i<12
    .have cG:ar ((i:Int)+1)=((i+1:Nat):Int):=Zc
     have jO:ar (2*(i:Int))=((2*i:Nat):Int):=Zc;have ko:ar (6+((2*i:Nat):Int))=((4+2*i+2:Nat):Int):=by rw[Zc];omega
     have qS:ar (4+((2*i:Nat):Int))=((4+2*i:Nat):Int):=by rw[Zc];omega
     simp only[cG,jO,ko,qS,bu,cP];rw[aw (show(i:Int)<12 by omega),ae];rw[Zb (by rw[aR,bq,bq];omega),Zb (by rw[aR,bq,bq];omega)];rw[Zk (Ad n _ s (Ct (a:=4+2*i))),Co];simp only[av,aq];rw[Zb (show aQ (i:Int) 12=true from Zi ax),Zb (gf (by omega))];refine aP (12-(i+1)) _ _ (by omega) ⟨i+1,?_,by omega,aL _,rfl⟩;congr 4;rw[Zlw,show List.replicate (12-i) (0:Int)=0::List.replicate (12-(i+1)) 0 by rw[show 12-i=(12-(i+1))+1 by omega];rfl];have e3:i=(ints (ZT b i)).length:=by simp[ints,Cb]
     have e4:=rN (ints (ZT b i)) [.int .i64 0] (ints (List.replicate (12-(i+1)) 0)) [.int .i64 (cW b (4+2*i) 2)] rfl;rw[<-e3]at e4;show cw (ints (ZT b i)++([.int .i64 0]++ints (List.replicate (12-(i+1)) 0))) i [.int .i64 (cW b (4+2*i) 2)]=ints (ZT b i++[cW b (4+2*i) 2])++_;rw[e4,show ints (ZT b i++[cW b (4+2*i) 2])=ints (ZT b i)++[.int .i64 (cW b (4+2*i) 2)] by unfold ints;rw[fg];rfl,fD]
    .rw[aB (show ¬(i:Int)<12 by omega),af]
     have pP:i=12:=by omega
     subst pP;rw[show ints (ZT b 12)++ints (List.replicate (12-12) 0)=ints (ZT b 12)from gG _]at hlen⊢;have oH:(DV.str ((b.drop 28).take t)::DV.int .i64 ((rd b 0 4:Nat):Int)::ints (ZT b 12))=ZW (Z1 b t):=rfl;have Ba:(Z1 b t).df.length=12:=Cb b 12;have It:(Z1 b t).mask<4294967296:=NL b 0 4;have MW:(Z1 b t).name.length<=28:=by
      show((b.drop 28).take t).length<=28;rw[cz];omega
     subst mw;show Ok Q (bn [DV.agg _] _ s);rw[dt];simp only[bP,av];rw[bF hlen];simp only[aq];rw[oH];refine Ok.call (Zpq n (Z1 b t) s Ba It (by omega) (by omega)) ?_;rintro _ ⟨s2,rfl,aZ⟩;refine⟨_,s2,rfl,?_⟩;simp only[au,aq];rw[Za];cases hr:mO (Z1 b t)with
     |false=>
      rw[hr,eG,af]at cN;rw[bp,ae];simp only[au,aq];rw[ae];exact bad s2 (aG.trans aZ) cN
     |true=>
      rw[hr,de]at cN;rw[bm,af];refine Ok.mn (ZlP n (Z1 b t) Ba (by omega) s2 (by omega)) ?_;rintro _ ⟨s3,rfl,cq⟩;refine⟨_,s3,rfl,cq,?_⟩;simp only[bP,aq];have rl: ∀(K:ah->M ah),da p 64 K s3=K (bK l) s3:=λK=>by
       have:=iD (show Sl _ _ (bK l)from fm.mono (aZ.trans cq)) K;rwa [Zq,hl]at this
      rw[rl,<-lq,oh];simp only[au,aq];cases cL:(x0 (Z1 b t)==l)with
      |false=>
       rw[cL]at cN;rw[bp,ae];exact bad s3 (aG.trans (aZ.trans cq)) cN
      |true=>
       rw[cL,ae]at cN;rw[bm,af,bF (by rw[<-oH];simp[hlen]),Zd,<-hQ];refine .mk ⟨s3,aG.trans (aZ.trans cq),?_⟩;rw[cN];exact⟨rfl,Ba⟩
   .rw[aw (show(t:Int)>28 by omega),ae]
    refine bad s1 aG ?_;unfold ZD;rw[ho];grind
  .rw[aB hk,bp,ae]
   simp_all[ZD]
def rY:ak:=List.replicate 16 0
def gz (img:aj) (k:Int):Option (ak):=if k=0 then some rY else match ja img k with
 |none=>none
 |some l=>Z0 l
def jR (img:aj) (k:Int):Option (List bA):=if k=0 then some nc else match ja img k with
 |none=>none
 |some l=>ZH l
theorem Hk (img:aj) (k:Int):((gz img k).getD rY).length=16:=by
 unfold gz;by_cases h:k=0
 .rw[bw h];rfl
 .rw[aW h]
  cases hl:ja img k with
  |none=>rfl
  |some l=>
   simp only;cases hg:Z0 l with
   |none=>rfl
   |some f=>exact RB hg
theorem KR (img:aj) (k:Int):((jR img k).getD nc).length=7:=by
 unfold jR;by_cases h:k=0
 .rw[bw h];rfl
 .rw[aW h]
  cases hl:ja img k with
  |none=>rfl
  |some l=>
   simp only;cases hg:ZH l with
   |none=>rfl
   |some f=>exact GK hg
theorem Zw (l:ak):(ints l).length=l.length:=by simp[ints]
theorem Zvw:(ints rY:ah)=List.replicate 16 (.int .i64 0):=rfl
theorem Kd (n:Nat) (img:aj) (k:Int) (st:St) (hl:img.length<1000000) (hn:600<=n:=by omega):
  Ok (λo=>∃s',o=(.val [.agg (ints ((gz img k).getD rY)),.bool (gz img k).isSome],s')/\aD st s') (run Bd n 289 [.str img,.int .i64 k] st):=by
 obtain⟨n,rfl⟩: ∃m,n=m+2:=⟨n-2,by omega⟩;rw[Ze,h.adp];unfold Rk pB pw iy eM bD;simp only[bP,av,aq];rw[<-Zvw];by_cases h0:k=0
 .have e:gz img k=some rY:=by unfold gz;rw[bw h0]
  rw[h0,rr,ae,Zd,<-h0,e];exact .mk ⟨st,rfl,.refl _⟩
 .have e:gz img k=(match ja img k with|none=>none|some l=>Z0 l):=by unfold gz;rw[aW h0]
  rw[dY.2 h0,af];refine Ok.call (D2 n img k st hl) ?_;rintro o ⟨s1,aG,ho⟩;rw[e];cases mX:ja img k with
  |none=>
   rw[mX]at ho;simp only at ho;subst ho;refine⟨_,s1,rfl,?_⟩;simp only[Zg 1 0 none _ (.inr rfl),au,aq];rw[bp,ae,Zd];exact .mk ⟨s1,rfl,aG⟩
  |some l=>
   rw[mX]at ho;obtain⟨p,rfl,hf,pK⟩:=ho;refine⟨_,s1,rfl,?_⟩;simp only[bc,au,aq];rw[bm,af];refine Ok.call (Zom (n+1) p l s1 hf.1 pK (by omega)) ?_;rintro o ⟨s2,aZ,ho⟩;cases hg:Z0 l with
   |none=>
    rw[hg]at ho;simp only at ho;subst ho;refine⟨_,s2,rfl,?_⟩;show Ok _ (bn [.agg (ints rY),.bool false] _ s2);rw[dt];simp only[au,aq];rw[bF (by rw[Zw];rfl),bF (by rw[Zw];rfl),Zd];exact .mk ⟨s2,rfl,aG.trans aZ⟩
   |some f=>
    rw[hg]at ho;obtain⟨rfl,eu⟩:=ho;refine⟨_,s2,rfl,?_⟩;rw[dt];simp only[au,aq];rw[bF (by rw[Zw];exact eu),bF (by rw[Zw];exact eu),Zd];exact .mk ⟨s2,rfl,aG.trans aZ⟩
theorem ZkM (n:Nat) (img:aj) (k:Int) (st:St) (hl:img.length<1000000) (hn:600<=n:=by omega):
  Ok (λo=>∃s',o=(.val [.agg (bR ((jR img k).getD nc)),.bool (jR img k).isSome],s')/\aD st s') (run Bd n 290 [.str img,.int .i64 k] st):=by
 obtain⟨n,rfl⟩: ∃m,n=m+2:=⟨n-2,by omega⟩;rw[Ze,h.adq];unfold P8 pB pw iy ZG eM bD;simp only[bP,av,aq];rw[<-ZpW];have Nv: ∀ {f:List bA},f.length=7->(bR f).length=21:=λhf=>by rw[Zz,hf]
 by_cases h0:k=0
 .have e:jR img k=some nc:=by unfold jR;rw[bw h0]
  rw[h0,rr,ae,Zd,<-h0,e];exact .mk ⟨st,rfl,.refl _⟩
 .have e:jR img k=(match ja img k with|none=>none|some l=>ZH l):=by unfold jR;rw[aW h0]
  rw[dY.2 h0,af];refine Ok.call (D2 n img k st hl) ?_;rintro o ⟨s1,aG,ho⟩;rw[e];cases mX:ja img k with
  |none=>
   rw[mX]at ho;simp only at ho;subst ho;refine⟨_,s1,rfl,?_⟩;simp only[Zg 1 0 none _ (.inr rfl),au,aq];rw[bp,ae,Zd];exact .mk ⟨s1,rfl,aG⟩
  |some l=>
   rw[mX]at ho;obtain⟨p,rfl,hf,pK⟩:=ho;refine⟨_,s1,rfl,?_⟩;simp only[bc,au,aq];rw[bm,af];refine Ok.call (Zm1 (n+1) p l s1 hf.1 pK (by omega)) ?_;rintro o ⟨s2,aZ,ho⟩;cases hg:ZH l with
   |none=>
    rw[hg]at ho;simp only at ho;subst ho;refine⟨_,s2,rfl,?_⟩;rw[dt];simp only[au,aq];rw[bF (Nv rfl),bF (Nv rfl),Zd];exact .mk ⟨s2,rfl,aG.trans aZ⟩
   |some f=>
    rw[hg]at ho;obtain⟨rfl,eu⟩:=ho;refine⟨_,s2,rfl,?_⟩;rw[dt];simp only[au,aq];rw[bF (Nv eu),bF (Nv eu),Zd];exact .mk ⟨s2,rfl,aG.trans aZ⟩
def lP (img:aj) (top:Int) (slot:Nat):Option bA:=match gz img top with
 |none=>none
 |some f=>match gz img (f.getD (slot/112) 0)with
  |none=>none
  |some g=>match jR img (g.getD (slot/7%16) 0)with
   |none=>none
   |some l=>l[slot%7]?
theorem RY {x:bA} (h:l[j]? =some x):((bR l).drop (j*3)).take 3=ez x:=by
 obtain⟨A,B,rfl,hA⟩: ∃A B,l=A++x::B/\A.length=j:=by
  obtain⟨hj,hx⟩:=dB.1 h;exact⟨l.take j,l.drop (j+1),by rw[<-hx];simp,by rw[cz];omega⟩
 have e:bR (A++x::B)=bR A++(ez x++bR B):=by rw[G3];rfl
 rw[e,List.drop_append_of_le_length (by rw[Zz,hA];omega),kz (by rw[Zz,hA];omega),gU];rfl
theorem yu {l:ak} (h:j<l.length:=by omega):(ints l)[j]? =some (.int .i64 (l.getD j 0)):=by
 rw[ZA h,dX,bU h];rfl
theorem Zqo (n:Nat) (img:aj) (top:Int) (slot:Nat) (st:St) (hl:img.length<1000000) (hs:slot<1792) (hn:700<=n):
  Ok (λo=>∃s',o=(.val [.agg (ez ((lP img top slot).getD jl)),.bool (lP img top slot).isSome],s')/\aD st s') (run Bd n 267 [.str img,.int .i64 top,.int .i64 (slot:Int)] st):=by
 obtain⟨n,rfl⟩: ∃m,n=m+1:=⟨n-1,by omega⟩;rw[Ze,h.ac9];unfold QA gP iy az eM rC Lb;simp only[bP,av,aq];have abp:ar ((slot:Int).tdiv 112)=((slot/112:Nat):Int):=by
  rw[show(slot:Int).tdiv 112=((slot/112:Nat):Int)from rfl];exact Zc
 have e7:ar ((slot:Int).tdiv 7)=((slot/7:Nat):Int):=by
  rw[show(slot:Int).tdiv 7=((slot/7:Nat):Int)from rfl];exact Zc
 have Uo:((slot/7:Nat):Int).tmod 16=((slot/7%16:Nat):Int):=rfl;have em7:(slot:Int).tmod 7=((slot%7:Nat):Int):=rfl;refine Ok.call (Kd n img top st hl) ?_;rintro _ ⟨s1,rfl,aG⟩;refine⟨_,s1,rfl,?_⟩;have eu:=Hk img top;obtain⟨f,hf⟩: ∃f,(gz img top).getD rY=f:=⟨_,rfl⟩;rw[hf]at eu⊢;rw[dt];simp only[au,aq];rw[bF (by rw[Zw];exact eu),bF (by rw[Zw];exact eu),abp,e7,Uo,em7];simp only[bu,cP];rw[Zb (show aQ ((slot/112:Nat):Int) 16=true from Zi),hU (yu (show slot/112<f.length by omega))];simp only[aY];refine Ok.call (Kd n img (f.getD (slot/112) 0) s1 hl) ?_;rintro _ ⟨s2,rfl,aZ⟩;refine⟨_,s2,rfl,?_⟩;have lR:=Hk img (f.getD (slot/112) 0);obtain⟨g,hg⟩: ∃g,(gz img (f.getD (slot/112) 0)).getD rY=g:=⟨_,rfl⟩;rw[hg]at lR⊢;rw[dt];simp only[au,aq];rw[bF (by rw[Zw];exact lR),bF (by rw[Zw];exact lR),Za];have bad:lP img top slot=none->Ok (λo=>∃s',o=(.val [.agg (ez ((lP img top slot).getD jl)),.bool (lP img top slot).isSome],s')/\aD st s') ((ay [.agg [.bool false,.int .i64 0,.int .i64 0],.bool false]:M ah) s2):=λhn=>by
  rw[hn,Zd];exact .mk ⟨s2,rfl,aG.trans aZ⟩
 cases hF:gz img top with
 |none=>
  rw[show(!(none:Option (ak)).isSome)=true from rfl,ae];simp only[au,aq];rw[ae];refine bad ?_;unfold lP;rw[hF]
 |some f'=>
  have U4:f'=f:=by rw[<-hf,hF];rfl
  subst U4;rw[show(!(some f').isSome)=false from rfl,af];simp only[au,aq];cases hG:gz img (f'.getD (slot/112) 0)with
  |none=>
   rw[show(!(none:Option (ak)).isSome)=true from rfl,ae];refine bad ?_;unfold lP;rw[hF];simp only;rw[hG]
  |some g'=>
   have vQ:g'=g:=by rw[<-hg,hG];rfl
   subst vQ;rw[show(!(some g').isSome)=false from rfl,af,Zb (show aQ ((slot/7%16:Nat):Int) 16=true from Zi),hU (yu (show slot/7%16<g'.length by omega))];simp only[aY];refine Ok.call (ZkM n img (g'.getD (slot/7%16) 0) s2 hl) ?_;rintro _ ⟨s3,rfl,cq⟩;refine⟨_,s3,rfl,?_⟩;have gZ:=KR img (g'.getD (slot/7%16) 0);obtain⟨l,C3⟩: ∃l,(jR img (g'.getD (slot/7%16) 0)).getD nc=l:=⟨_,rfl⟩;rw[C3]at gZ⊢;have hx:l[slot%7]? =some (l[slot%7]'(by omega)):=bU (by omega);have UT:=RY hx;rw[dt];simp only[au,aq];rw[bF (by rw[Zz,gZ]),bF (by rw[Zz,gZ]),Zb (show aQ ((slot%7:Nat):Int) 7=true from Zi),Zb (gf (by omega)),UT,bF (show(ez _).length=3 from rfl),Zd];refine .mk ⟨s3,?_,aG.trans (aZ.trans cq)⟩;have Fq:lP img top slot=(match jR img (g'.getD (slot/7%16) 0)with|none=>none|some l=>l[slot%7]?):=by
    unfold lP;rw[hF];simp only;rw[hG]
   rw[Fq];cases hL:jR img (g'.getD (slot/7%16) 0)with
   |none=>
    have Bh:l=nc:=by rw[<-C3,hL];rfl
    have h0:l[slot%7]'(by omega)=jl:=by
     subst Bh;exact List.eq_of_mem_replicate (jG _)
    rw[h0];rfl
   |some l'=>
    have aeF:l'=l:=by rw[<-C3,hL];rfl
    subst aeF;simp only;rw[hx];rfl
def cy (acc:ak) (k:Int):ak:=bif k==0 then acc else acc++[k]
def mj (img:aj):ak->ak->Option (ak)
 |acc,[]=>some acc
 |acc,k::r=>match jR img k with
  |none=>none
  |some _=>mj img (cy acc k) r
def ou (img:aj):ak->ak->Option (ak)
 |acc,[]=>some acc
 |acc,k::r=>match gz img k with
  |none=>none
  |some g=>match mj img (cy acc k) g with
   |none=>none
   |some qz=>ou img qz r
def xb (img:aj) (top:Int):Option (ak):=match gz img top with
 |none=>none
 |some f=>ou img (cy [] top) f
def JY (st:St) (R:Option (ak)) (o:Out ah×St):Prop:=∃s',aD st s'/\match R with
 |none=>o=(.val [.slice 0 none 0,.bool false],s')
 |some l=>∃p,o=(.val [.slice 1 p l.length,.bool true],s')/\Sl s' p (ints l)
theorem Zsa (acc:ak) (k:Int):(cy acc k).length<=acc.length+1:=by
 unfold cy;cases(k==0)with
 |true=>rw[ae];omega
 |false=>rw[af,bz,iw];omega
theorem KW (l:ak) (k:Int):ints (l++[k])=ints l++[.int .i64 k]:=by unfold ints;rw[fg];rfl
theorem Hy {l:ak} (h:i<l.length:=by omega):l.drop i=l.getD i 0::l.drop (i+1):=by
 rw[iI h,dX,bU h];rfl
theorem Zoy (n:Nat) (img:aj) (top:Int) (st:St) (hl:img.length<1000000) (hn:700<=n):
  Ok (JY st (xb img top)) (run Bd n 265 [.str img,.int .i64 top] st):=by
 obtain⟨n,rfl⟩: ∃m,n=m+1:=⟨n-1,by omega⟩;rw[Ze,h.ac7];unfold Qm pB iy gk lJ eM tT eW bD Li;simp only[bP,av,aq,Z5];refine Ok.call (Kd n img top st hl) ?_;rintro _ ⟨s1,rfl,aG⟩;refine⟨_,s1,rfl,?_⟩;have eu:=Hk img top;obtain⟨f,hf⟩: ∃f,(gz img top).getD rY=f:=⟨_,rfl⟩;rw[hf]at eu⊢;rw[dt];simp only[au,aq];rw[bF (by rw[Zw];exact eu),bF (by rw[Zw];exact eu)];obtain⟨R,hR⟩: ∃R,xb img top=R:=⟨_,rfl⟩;rw[hR];have bad: ∀s',aD st s'->R=none->Ok (JY st R) ((cu st.length [.slice 0 none 0,.bool false]:M ah) s'):=λs' hp hn=>by
  rw[hn,Zs];exact .mk ⟨_,Zu hp,rfl⟩
 cases hF:gz img top with
 |none=>
  rw[show(!(none:Option (ak)).isSome)=true from rfl,ae];refine bad s1 aG ?_;rw[<-hR];unfold xb;rw[hF]
 |some f'=>
  have U4:f'=f:=by rw[<-hf,hF];rfl
  subst U4;have hRf:R=ou img (cy [] top) f':=by
   rw[<-hR];unfold xb;rw[hF]
  rw[show(!(some f').isSome)=false from rfl,af];refine Ok.join λaA oN=>?_
  have go: ∀(z:Nat) (p:ai) (s2:St),(z=1\/p=none)->ba st s2 p (ints (cy [] top))->Ok (JY st R) (aA [.slice z p (cy [] top).length] s2):=λz p s2 hz ho=>by
   subst oN;simp only[Zg 1 z p _ hz,aq];refine Ok.join λaI j8=>?_
   refine Zj _ (λq y t=>∃(i z:Nat) (p:ai) (out:ak),y=[.slice z p out.length,.int .i64 i]/\(z=1\/p=none)/\i<=16/\16-i<=q/\ba st t p (ints out)/\out.length<=1+17*i/\R=ou img out (f'.drop i)) ?_ 16 n _ _ ⟨0,1,p,cy [] top,rfl,.inl rfl,by omega,by omega,ho,by have:=Zsa [] top;simp at this;omega,by rw[dj];exact hRf⟩ (by omega);rintro q y t ⟨i,z,p,out,rfl,hz,hi,hq,ho,iM,vH⟩ rec aP;simp only[Zg 1 z p _ hz,av,aq];have jL: ∀l:ak,(ints l).length=l.length*1:=λl=>by rw[Zw,cP]
   by_cases ax:i<16
   .have fH:=Hy (l:=f') (i:=i)
    obtain⟨k,hk⟩: ∃k,f'.getD i 0=k:=⟨_,rfl⟩;rw[hk]at fH;have uL:(ints f')[i]? =some (.int .i64 k):=by rw[<-hk];exact yu
    rw[aw (show(i:Int)<16 by omega),ae];refine Ok.join λaS mw=>?_
    rw[Zb (show aQ (i:Int) 16=true from Zi ax)];simp only[bu,cP];rw[hU uL];simp only[aY];refine Ok.call (Kd n img k t hl) ?_;rintro _ ⟨t1,rfl,aZ⟩;refine⟨_,t1,rfl,?_⟩;have lR:=Hk img k;obtain⟨g,hg⟩: ∃g,(gz img k).getD rY=g:=⟨_,rfl⟩;rw[hg]at lR⊢;rw[dt];simp only[au,aq];rw[bF (by rw[Zw];exact lR),bF (by rw[Zw];exact lR)];have pS:=ho.mono aZ;rw[fH]at vH;cases hG:gz img k with
    |none=>
     rw[show(!(none:Option (ak)).isSome)=true from rfl,ae];refine bad t1 pS.1 ?_;rw[vH];unfold ou;rw[hG]
    |some g'=>
     have vQ:g'=g:=by rw[<-hg,hG];rfl
     subst vQ;have UH:R=(match mj img (cy out k) g' with|none=>none|some qz=>ou img qz (f'.drop (i+1))):=by
      rw[vH]
      conv=>lhs;unfold ou
      rw[hG]
     rw[show(!(some g').isSome)=false from rfl,af,Zb (show aQ (i:Int) 16=true from Zi ax),hU uL];simp only[aY];refine Ok.join λbC Bf=>?_
     have Mp: ∀(z:Nat) (p:ai) (s2:St),(z=1\/p=none)->ba st s2 p (ints (cy out k))->Ok (JY st R) (bC [.slice z p (cy out k).length] s2):=λz p s2 hz ho=>by
      subst Bf;simp only[Zg 1 z p _ hz,aq];refine Ok.join λcd Bg=>?_
      have lr:=Zsa out k;refine Zj _ (λq y t=>∃(j z:Nat) (p:ai) (o:ak),y=[.slice z p o.length,.int .i64 j]/\(z=1\/p=none)/\j<=16/\16-j<=q/\ba st t p (ints o)/\o.length<=2+17*i+j/\mj img (cy out k) g'=mj img o (g'.drop j)) ?_ 16 n _ _ ⟨0,1,p,cy out k,rfl,.inl rfl,by omega,by omega,ho,by omega,rfl⟩ (by omega);rintro q2 y2 u ⟨j,z2,p2,o2,rfl,gD,hj,Dc,c8,FE,HX⟩ dA kh;simp only[Zg 1 z2 p2 _ gD,av,aq];by_cases kb:j<16
      .have X2:=Hy (l:=g') (i:=j)
       obtain⟨w,hw⟩: ∃w,g'.getD j 0=w:=⟨_,rfl⟩;rw[hw]at X2;have qK:(ints g')[j]? =some (.int .i64 w):=by rw[<-hw];exact yu
       rw[aw (show(j:Int)<16 by omega),ae,Zb (show aQ (j:Int) 16=true from Zi kb)];simp only[bu,cP];rw[hU qK];simp only[aY];refine Ok.call (ZkM n img w u hl) ?_;rintro _ ⟨u1,rfl,cq⟩;refine⟨_,u1,rfl,?_⟩;have gZ:=KR img w;rw[dt];simp only[au,aq];rw[bF (by rw[Zz,gZ]),bF (by rw[Zz,gZ])];have kd:=c8.mono cq;rw[X2]at HX;cases hL:jR img w with
       |none=>
        rw[show(!(none:Option (List bA)).isSome)=true from rfl,ae];refine bad u1 kd.1 ?_;rw[UH,HX];unfold mj;rw[hL]
       |some l=>
        have Mw:mj img (cy out k) g'=mj img (cy o2 w) (g'.drop (j+1)):=by
         rw[HX]
         conv=>lhs;unfold mj
         rw[hL]
        rw[show(!(some l).isSome)=false from rfl,af,Zb (show aQ (j:Int) 16=true from Zi kb),hU qK];simp only[aY];rw[Za];by_cases FQ:w=0
        .have oR:cy o2 w=o2:=by unfold cy;rw[FQ];rfl
         rw[oR]at Mw;rw[FQ,show(!((0:Int)==0))=false from rfl,af];simp only[bc,aq];rw[Zc];exact kh (16-(j+1)) _ _ (by omega) ⟨j+1,1,p2,o2,rfl,.inl rfl,by omega,aL _,kd,by omega,Mw⟩
        .have oR:cy o2 w=o2++[w]:=by unfold cy;rw[dY.2 FQ];rfl
         rw[oR]at Mw;rw[dY.2 FQ,bp,ae,Zb (show aQ (j:Int) 16=true from Zi kb),hU qK];simp only[aY];obtain⟨p4,u4,nN,AV⟩:=kd.push (β:=ah) (sz:=1) (n:=o2.length) (lim:=8796093022208) [.int .i64 w] (by omega) (jL o2) rfl (by omega);rw[AV];simp only[bc,aq];rw[Zc];rw[<-KW]at nN;exact kh (16-(j+1)) _ _ (by omega) ⟨j+1,1,p4,o2++[w],by rw[bz,iw];rfl,.inl rfl,by omega,aL _,nN,by rw[bz,iw];omega,Mw⟩
      .rw[aB (show ¬(j:Int)<16 by omega),af,Bg]
       simp only[bc,aq];rw[mw];simp only[bc,aq];rw[Zc];rw[kz (by omega)]at HX;rw[HX]at UH;exact aP (16-(i+1)) _ _ (by omega) ⟨i+1,1,p2,o2,rfl,.inl rfl,by omega,aL _,c8,by omega,UH⟩
     by_cases j9:k=0
     .have oR:cy out k=out:=by unfold cy;rw[j9];rfl
      rw[oR]at Mp;rw[j9,show(!((0:Int)==0))=false from rfl,af];exact Mp 1 p t1 (.inl rfl) pS
     .have oR:cy out k=out++[k]:=by unfold cy;rw[dY.2 j9];rfl
      rw[oR]at Mp;rw[dY.2 j9,bp,ae,Zb (show aQ (i:Int) 16=true from Zi ax),hU uL];simp only[aY];obtain⟨p4,u4,nN,AV⟩:=pS.push (β:=ah) (sz:=1) (n:=out.length) (lim:=8796093022208) [.int .i64 k] (by omega) (jL out) rfl (by omega);rw[AV];rw[<-KW]at nN;have:=Mp 1 p4 u4 (.inl rfl) nN;rwa [bz,iw]at this
   .rw[aB (show ¬(i:Int)<16 by omega),af,j8]
    simp only[bc,aq,Zs];rw[kz (by omega)]at vH;refine .mk ⟨_,Zu ho.1,?_⟩;rw[vH];exact⟨p,rfl,ho.sl.fN _⟩
  by_cases FP:top=0
  .have oR:cy [] top=[]:=by unfold cy;rw[FP];rfl
   rw[oR]at go;rw[FP,show(!((0:Int)==0))=false from rfl,af];exact go 0 none s1 (.inr rfl) (.nil aG)
  .have oR:cy [] top=[top]:=by unfold cy;rw[dY.2 FP];rfl
   rw[oR]at go;rw[dY.2 FP,bp,ae];obtain⟨p4,u4,nN,AV⟩:=(ba.nil aG).push (β:=ah) (sz:=1) (n:=0) (lim:=8796093022208) [.int .i64 top] (by omega) rfl rfl (by omega);rw[AV];exact go 1 p4 u4 (.inl rfl) nN
def tG (img:aj) (k:Int):Option jo:=match ja img k with
 |none=>none
 |some l=>iz l
theorem Zqj (n:Nat) (img:aj) (k:Int) (st:St) (hl:img.length<1000000) (hn:3002<=n):
  Ok (λo=>∃s',aD st s'/\match tG img k with
   |none=>∃z,o=(.val [.agg [.int .i64 0,.int .i64 0,.int .i64 0,.int .i64 0,.slice z none 0],.bool false],s')
   |some x=>∃q,o=(.val [.agg (nR x 1 q),.bool true],s')/\Sl s' q (ints x.kids)) (run Bd n 294 [.str img,.int .i64 k] st):=by
 obtain⟨n,rfl⟩: ∃m,n=m+2:=⟨n-2,by omega⟩;rw[Ze,h.adu];unfold P5 pB pw D7 eM Ab bD D9;simp only[bP,av,aq,Z5];refine Ok.call (D2 n img k st hl) ?_;rintro o ⟨s1,aG,ho⟩;unfold tG;cases mX:ja img k with
 |none=>
  rw[mX]at ho;simp only at ho;subst ho;refine⟨_,s1,rfl,?_⟩;simp only[Zg 1 0 none _ (.inr rfl),au,aq];rw[bp,ae,Zs];exact .mk ⟨_,Zu aG,0,rfl⟩
 |some l=>
  rw[mX]at ho;obtain⟨p,rfl,hf,pK⟩:=ho;refine⟨_,s1,rfl,?_⟩;simp only[bc,au,aq];rw[bm,af];refine Ok.call (ZrC (n+1) p l s1 hf.1 pK (by omega)) ?_;rintro o ⟨s2,aZ,ho⟩;cases hg:iz l with
  |none=>
   rw[hg]at ho;simp only at ho;subst ho;refine⟨_,s2,rfl,?_⟩;rw[dt];simp only[av,Zg 1 0 none _ (.inr rfl),au,aq];rw[Zs];exact .mk ⟨_,Zu (aG.trans aZ),1,rfl⟩
  |some x=>
   rw[hg]at ho;obtain⟨q,rfl,hq⟩:=ho;refine⟨_,s2,rfl,?_⟩;rw[dt];unfold nR eR;simp only[nr,gU,av,bc,au,aq];rw[Zs];exact .mk ⟨_,Zu (aG.trans aZ),q,rfl,hq.1.fN _⟩
def js (img:aj):Nat->ak->bh->Option (List bh×ak)
 |0,_,_=>some ([],[])
 |j+1,ks,e=>match js img j ks e with
  |none=>none
  |some (es,bs)=>match tG img (ks.getD j 0)with
   |none=>none
   |some m=>bif decide (m.kids.length=j)then(match js img j m.kids m.bH with
    |none=>none
    |some (gY,gu)=>bif fb e m.bH then some (es++m.bH::gY,bs++ks.getD j 0::gu)else none)else none
def kN (img:aj) (d:Nat) (k:Int):Option (List bh×ak):=match tG img k with
 |none=>none
 |some m=>bif decide (m.kids.length=d)then(match js img d m.kids m.bH with
  |none=>none
  |some (es,bs)=>some (m.bH::es,k::bs))else none
theorem Ra (img:aj) (j:Nat) (ks:ak) (e:bh):js img (j+1) ks e=(match js img j ks e with
  |none=>none
  |some (es,bs)=>match kN img j (ks.getD j 0)with
   |none=>none
   |some (eS,fK)=>bif fb e (eS.headD ⟨0,0,0,0⟩)then some (es++eS,bs++fK)else none):=by
 conv=>lhs;unfold js
 cases js img j ks e with
 |none=>rfl
 |some q=>
  grind[kN]
theorem Zmy {img:aj} {ks:ak} {e:bh} {i:Nat} (h:js img i ks e=none): ∀d,i<=d->js img d ks e=none
 |0,hd=>by
  grind
 |d+1,hd=>by
  by_cases hi:i=d+1
  .subst hi;exact h
  .rw[Ra,Zmy h d (by omega)]
theorem GR {img:aj} : ∀(j:Nat) (ks:ak) (e:bh) (es:List bh) (bs:ak),js img j ks e=some (es,bs)->es.length+1=2^j/\bs.length=es.length
 |0,_,_,_,_,h=>by cases h;exact⟨rfl,rfl⟩
 |j+1,ks,e,es,bs,h=>by
  unfold js at h;cases h1:js img j ks e with
  |none=>rw[h1]at h;cases h
  |some q=>
   obtain⟨xr,xh⟩:=q;obtain⟨a1,a2⟩:=GR j ks e xr xh h1;rw[h1]at h;simp only at h;cases h2:tG img (ks.getD j 0)with
   |none=>rw[h2]at h;cases h
   |some m=>
    rw[h2]at h;simp only at h;cases h3:decide (m.kids.length=j)with
    |false=>rw[h3]at h;cases h
    |true=>
     rw[h3,ae]at h;cases h4:js img j m.kids m.bH with
     |none=>rw[h4]at h;cases h
     |some q=>
      obtain⟨yL,vz⟩:=q;obtain⟨b1,b2⟩:=GR j m.kids m.bH yL vz h4;rw[h4]at h;grind
theorem Cl {k:Int} {bs:ak} (h:kN img d k=some (es,bs)):es.length=2^d/\bs.length=es.length:=by
 unfold kN at h;cases h2:tG img k with
 |none=>rw[h2]at h;cases h
 |some m=>
  rw[h2]at h;simp only at h;cases h3:decide (m.kids.length=d)with
  |false=>rw[h3]at h;cases h
  |true=>
   rw[h3,ae]at h;cases h4:js img d m.kids m.bH with
   |none=>rw[h4]at h;cases h
   |some q=>
    obtain⟨yL,vz⟩:=q;obtain⟨b1,b2⟩:=GR d m.kids m.bH yL vz h4;rw[h4]at h;grind
def Gq (st:St) (R:Option (List bh×ak)) (o:Out ah×St):Prop:=∃s',aD st s'/\match R with
 |none=>o=(.val [.slice 0 none 0,.slice 0 none 0,.bool false],s')
 |some (es,bs)=>∃p q,o=(.val [.slice 4 p es.length,.slice 1 q bs.length,.bool true],s')/\Sl s' p (bM es)/\Sl s' q (ints bs)/\(∀b∈aM q,st.length<=b)/\∀b∈aM p,st.length<=b
theorem K9 (l m:ak):ints (l++m)=ints l++ints m:=by simp[ints]
theorem ba.tm {a:ai} (h:ba s0 s a cs) {sz m:Nat} (hz:0<sz) (hn:cs.length=n*sz) (hd:ds.length=m*sz) (hl:n+m<=lim):
  ∃p s',ba s0 s' p (cs++ds)/\Fx (aM a) s s'/\(∀b∈aM p,b∈aM a\/s.length<=b)/\∀K:ai->M β,cm sz a n ds m lim K s=K p s':=by
 rcases yl m with rfl|hm
 .rw[od]at hd
  rw[wG.1 hd,gG];exact⟨a,s,h,⟨aL _,λ_ _ _ e=>e⟩,λb hb=> .inl hb,λK=>rfl⟩
 .have hb:Nat.beq m 0=false:=by cases m with|zero=>cases hm|succ m=>rfl
  rcases h.2 with⟨rfl,rfl⟩|⟨i,rfl,hi,hs⟩
  .have h0:n=0:=by
    rcases Gh.1 (show n*sz=0 by simpa using hn.symm)with h|h
    .exact h
    .omega
   subst h0;refine⟨some (s.length,0),s++[some ⟨false,ds⟩],⟨h.1.trans (.new _ _),.inr ⟨s.length,rfl,h.1.len,by simp⟩⟩,⟨by simp,by grind⟩,λb hb=> .inr (by rw[cj.1 hb];exact aL _),λK=>?_⟩;unfold cm;simp only[hb,gf hl,ae,af];rfl
  .have ef:s.gE i=some cs:=by grind[St.gE]
   refine⟨some (s.length,0),s.set i none++[some ⟨false,cs++ds⟩],⟨(wV h.1 hi none).trans (.new _ _),(by grind)⟩,⟨by simp,λb x hbn e=>?_⟩,λb hb=> .inr (by rw[cj.1 hb];exact aL _),λK=>?_⟩
   .have hbi:i≠b:=λe=>hbn (by rw[<-e];exact cj.2 rfl)
    grind
   .unfold cm
    simp only[hb,gf hl,ae,af,ef];rw[ej,gf (by omega)];grind
theorem ba.xx {a:ai} (h:ba s0 s a cs) (k:Fx T s s') (hn: ∀b∈aM a,b∉T) (hp:aD s0 s'):ba s0 s' a cs:=by
 rcases h.2 with⟨rfl,rfl⟩|⟨i,rfl,hi,hs⟩
 .exact⟨hp,.inl ⟨rfl,rfl⟩⟩
 .exact⟨hp,.inr ⟨i,rfl,hi,k.2 i _ (hn i (cj.2 rfl)) hs⟩⟩
theorem ba.oS {a:ai} (h:ba s0 s a cs): ∀b∈aM a,b<s.length:=λb hb=>by
 rcases h.2 with⟨rfl,rfl⟩|⟨i,rfl,hi,hs⟩
 .cases hb
 .rw[cj.1 hb]
  grind
theorem ba.HR {a:ai} (h:ba s0 s a cs): ∀b∈aM a,s0.length<=b:=λb hb=>by
 rcases h.2 with⟨rfl,rfl⟩|⟨i,rfl,hi,hs⟩
 .cases hb
 .rw[cj.1 hb]
  exact hi
theorem yD {a:ai} (h: ∀b∈aM a,b∉T):lI T a:=λb o e=>h b (by rw[e];exact cj.2 rfl)
theorem Sl.oS {a:ai} (h:Sl s a cs): ∀b∈aM a,b<s.length:=λb hb=>by
 cases a with
 |none=>cases hb
 |some x=>
  obtain⟨i,o⟩:=x;rw[cj.1 hb];exact h.lt
theorem Zqy (img:aj) (hl:img.length<1000000): ∀(d:Nat),d<=12->∀(n:Nat) (k:Int) (st:St),3100+d<=n->Ok (Gq st (kN img d k)) (run Bd n 271 [.str img,.int .i64 k,.int .i64 (d:Int)] st):=by
 intro d;induction d using Nat.strongRecOn with
 |_ d ih=>
 intro hd n k st hn;obtain⟨n,rfl⟩: ∃m,n=m+1:=⟨n-1,by omega⟩;rw[Ze,h.adf];unfold QD gP D7 az ck rL Zn Ew pE bd eM rF zO Li yp Lb zT;simp only[bP,av,aq,Z5];refine Ok.call (Zqj n img k st hl (by omega)) ?_;rintro o ⟨s1,aG,ho⟩;obtain⟨R,hR⟩: ∃R,kN img d k=R:=⟨_,rfl⟩;rw[hR];have bad: ∀s',aD st s'->R=none->Ok (Gq st R) ((cu st.length [.slice 0 none 0,.slice 0 none 0,.bool false]:M ah) s'):=λs' hp hn=>by
  rw[hn,Zs];exact .mk ⟨_,Zu hp,rfl⟩
 unfold kN at hR;cases hN:tG img k with
 |none=>
  rw[hN]at ho hR;obtain⟨z,rfl⟩:=ho;refine⟨_,s1,rfl,?_⟩;rw[dt];simp only[av,Zg 1 z none _ (.inr rfl),au,aq];rw[Za,bp,ae];simp only[au,aq];rw[ae];exact bad s1 aG hR.symm
 |some m=>
  rw[hN]at ho hR;obtain⟨q,rfl,hq⟩:=ho;simp only at hR;refine⟨_,s1,rfl,?_⟩;rw[dt];unfold nR eR;simp only[nr,gU,av,bc,au,aq];rw[Za,bm,af,nE m.kids.length d (d:Int) rfl];simp only[au,aq];by_cases MM:m.kids.length=d
  .rw[aw MM,ae]at hR
   rw[aw MM,bm,af,Zy,Zy];obtain⟨s2,jN⟩: ∃s2,s1++[some (⟨false,[.int .i64 m.bH.slot,.int .i64 m.bH.gen,.int .i64 m.bH.key,.int .i64 m.bH.value]⟩:bT)]=s2:=⟨_,rfl⟩;obtain⟨s3,vV⟩: ∃s3,s2++[some (⟨false,[.int .i64 k]⟩:bT)]=s3:=⟨_,rfl⟩;have aZ:aD s1 s2:=by rw[<-jN];exact .new _ _
   have cq:aD s2 s3:=by rw[<-vV];exact .new _ _
   have sj:ba st s3 (some (s1.length,0)) (bM [m.bH]):=⟨aG.trans (aZ.trans cq),.inr ⟨s1.length,rfl,aG.len,cq.get (by rw[<-jN];simp[bM,eR])⟩⟩;have uP:ba st s3 (some (s2.length,0)) (ints [k]):=⟨aG.trans (aZ.trans cq),.inr ⟨s2.length,rfl,by have:=aG.len;have:=aZ.len;omega,by rw[<-vV];simp[ints]⟩⟩;rw[jN,vV];have du:s1.length<s2.length:=by rw[<-jN];simp
   refine Ok.join λaI j8=>?_
   refine Zj _ (λc y t=>∃(i:Nat) (pe pb:ai) (es:List bh) (bs:ak),y=[.slice 4 pe (es.length+1),.slice 1 pb (bs.length+1),.int .i64 (i:Int)]/\i<=d/\d-i<=c/\js img i m.kids m.bH=some (es,bs)/\ba st t pe (bM (m.bH::es))/\ba st t pb (ints (k::bs))/\(∀b∈aM pe,s1.length<=b/\b∉aM pb)/\(∀b∈aM pb,s1.length<=b)/\Sl t q (ints m.kids)/\s1.length<=t.length) ?_ d n _ _ ⟨0,some (s1.length,0),some (s2.length,0),[],[],rfl,cn _,by omega,rfl,sj,uP,λb hb=>⟨by rw[cj.1 hb];exact aL _,by rw[cj.1 hb];intro e;have:=cj.1 e;omega⟩,λb hb=>by rw[cj.1 hb];omega,(hq.mono aZ).mono cq,by have:=aZ.len;have:=cq.len;omega⟩ (by omega);have y8:=hq.oS;rintro c y t ⟨i,pe,pb,es,bs,rfl,hi,hc,hT,sj,uP,M6,FI,Bn,dG⟩ rec aP;simp only[bc,av,aq];have hlen:=GR i m.kids m.bH es bs hT;have tE:2^i<=2^12:=l9 (by decide) (by omega);by_cases ax:i<d
   .obtain⟨w,hw⟩: ∃w,m.kids.getD i 0=w:=⟨_,rfl⟩
    have qK:(ints m.kids)[i]? =some (.int .i64 w):=by rw[<-hw];exact yu
    obtain⟨i1,o1,rfl⟩:=Bn.cD (by rw[Zw];omega);rw[aw (show(i:Int)<(d:Int) by omega),ae,aX,Zb (Zi)];simp only[bu];rw[Bn.dL qK];simp only[aY];have qP:=Ra img i m.kids m.bH;rw[hT,hw]at qP;simp only at qP;refine Ok.call (ih i ax (by omega) n w t (by omega)) ?_;rintro o ⟨t1,jj,ho⟩;have IB:=sj.mono jj;have Vu:=uP.mono jj;have fail:js img (i+1) m.kids m.bH=none->Ok (Gq st R) ((cu st.length [.slice 0 none 0,.slice 0 none 0,.bool false]:M ah) t1):=λhf=>by
     refine bad t1 IB.1 ?_;rw[<-hR,Zmy hf d (by omega)]
    cases hS:kN img i w with
    |none=>
     rw[hS]at ho qP;simp only at ho;subst ho;refine⟨_,t1,rfl,?_⟩;simp only[Zg 4 0 none _ (.inr rfl),Zg 1 0 none _ (.inr rfl),au,aq];rw[Za,bp,ae];simp only[au,aq];rw[ae];exact fail qP
    |some qq=>
     obtain⟨eS,fK⟩:=qq;rw[hS]at ho qP;obtain⟨px,py,rfl,IH,VK,VM,_⟩:=ho;refine⟨_,t1,rfl,?_⟩;have gA:=Cl hS;obtain⟨e0,zp,rfl⟩: ∃e0 zp,eS=e0::zp:=by
      cases eS with
      |nil=>have:=gA.1;rw[yi]at this;omega
      |cons a b=>exact⟨a,b,rfl⟩
     simp only[bc,au,aq];rw[Za,bm,af];obtain⟨i4,o4,rfl⟩:=IH.cD (by rw[Zr,cH];omega);rw[aX,Zb (show aQ 0 (e0::zp).length=true from Zi (i:=0) (by simp)),IH.xy (k:=0) (n:=4) (by rw[Zr,cH];omega)];show Ok _ (aF .i64 (eR e0) _ t1);unfold eR;simp only[av,aq];have Fi:=Pe (n-1) m.bH e0 t1;rw[show n-1+1=n by omega]at Fi;unfold eR at Fi;rw[Zk Fi];simp only[au,aq];simp only[List.headD_cons]at qP;cases hA:fb m.bH e0 with
     |false=>
      rw[hA,af]at qP;rw[bp,ae];exact fail qP
     |true=>
      rw[hA,ae]at qP;rw[bm,af];have r1: ∀K:ah->M ah,da (some (i4,o4)) ((e0::zp).length*4) K t1=K (bM (e0::zp)) t1:=λK=>by
       have:=iD IH K;rwa [Zr]at this
      rw[r1];obtain⟨p5,t5,nO,mu,CP,AW⟩:=IB.tm (β:=ah) (sz:=4) (n:=es.length+1) (m:=(e0::zp).length) (lim:=2199023255552) (ds:=bM (e0::zp)) (by omega) (by rw[Zr];rfl) (by rw[Zr]) (by omega);rw[AW];have vX:=jj.len;have VD:=sj.oS;have afc:=uP.oS;have VL:Sl t5 py (ints fK):=VK.fx mu (yD λb hb cV=>by have:=VM b hb;have:=VD b cV;omega);have r2: ∀K:ah->M ah,da py (fK.length*1) K t5=K (ints fK) t5:=λK=>by
       have:=iD VL K;rwa [Zw,<-cP fK.length]at this
      rw[r2];have Vv:ba st t5 pb (ints (k::bs)):=Vu.xx mu (by grind) nO.1;obtain⟨p6,t6,lS,qI,vK,tA⟩:=Vv.tm (β:=ah) (sz:=1) (n:=bs.length+1) (m:=fK.length) (lim:=8796093022208) (ds:=ints fK) (by omega) (by rw[Zw,cP];rfl) (by rw[Zw,cP]) (by omega);rw[tA];have VA: ∀b∈aM p5,b∉aM pb:=λb hb cV=>by
       grind
      have MX:ba st t6 p5 (bM (m.bH::es)++bM (e0::zp)):=nO.xx qI VA lS.1;rw[Zc];refine aP (d-(i+1)) _ _ (by omega) ⟨i+1,p5,p6,es++e0::zp,bs++fK,?_,by omega,aL _,qP,?_,?_,λb hb=>⟨?_,λcV=>?_⟩,λb hb=>?_,?_,by have:=mu.1;have:=qI.1;omega⟩
      .grind
      .rw[<-yq]at MX;exact MX
      .rw[<-K9]at lS;exact lS
      .rcases CP b hb with h1|h1
       .exact(M6 b h1).1
       .omega
      .have h5l:=nO.oS b hb
       grind
      .rcases vK b hb with h1|h1
       .exact FI b h1
       .have:=mu.1;omega
      .exact((Bn.mono jj).fx mu (yD λb hb cV=>by have:=y8 b hb;have:=(M6 b cV).1;omega)).fx qI (yD λb hb cV=>by have:=y8 b hb;have:=FI b cV;omega)
   .rw[aB (show ¬(i:Int)<(d:Int) by omega),af,j8]
    have hid:i=d:=by omega
    subst hid;rw[hT]at hR;simp only[bc,aq,Zs];refine .mk ⟨_,Zu sj.1,?_⟩;rw[<-hR];exact⟨pe,pb,rfl,sj.sl.fN _,uP.sl.fN _,uP.HR,sj.HR⟩
  .rw[aB MM,af]at hR
   rw[aB MM,bp,ae];exact bad s1 aG hR.symm
def Z4 (img:aj):Nat->ak->List bh->ak->Option (List bh×ak)
 |_,[],es,bs=>some (es,bs)
 |i,k::r,es,bs=>bif k==0 then Z4 img (i+1) r es bs else match kN img i k with
  |none=>none
  |some (eS,fK)=>Z4 img (i+1) r (es++eS) (bs++fK)
def ui (img:aj) (r:ak):Option (List bh×ak):=Z4 img 0 r [] []
theorem ZnL (n:Nat) (img:aj) (r:ak) (st:St) (hl:img.length<1000000) (hr:r.length=12) (hn:3200<=n):
  Ok (Gq st (ui img r)) (run Bd n 246 [.str img,.agg (ints r)] st):=by
 obtain⟨n,rfl⟩: ∃m,n=m+1:=⟨n-1,by omega⟩;rw[Ze,h.acQ];unfold Pd ck rL Ew yp rF;simp only[bP];rw[dt,bF (by rw[Zw];exact hr)];simp only[aq,Z5];rw[bF (by rw[Zw];exact hr)];obtain⟨R,hR⟩: ∃R,ui img r=R:=⟨_,rfl⟩;rw[hR];have bad: ∀s',aD st s'->R=none->Ok (Gq st R) ((cu st.length [.slice 0 none 0,.slice 0 none 0,.bool false]:M ah) s'):=λs' hp hn=>by
  rw[hn,Zs];exact .mk ⟨_,Zu hp,rfl⟩
 refine Ok.join λaA oN=>?_
 refine Zj _ (λc y t=>∃(i z1 z2:Nat) (pe pb:ai) (es:List bh) (bs:ak),y=[.slice z1 pe es.length,.slice z2 pb bs.length,.int .i64 (i:Int)]/\(z1=4\/pe=none)/\(z2=1\/pb=none)/\i<=12/\12-i<=c/\R=Z4 img i (r.drop i) es bs/\ba st t pe (bM es)/\ba st t pb (ints bs)/\(∀b∈aM pe,b∉aM pb)/\es.length+1<=2^i/\bs.length=es.length) ?_ 12 n _ _ ⟨0,0,0,none,none,[],[],rfl,.inr rfl,.inr rfl,by omega,by omega,by rw[dj];exact hR.symm,.nil (.refl _),.nil (.refl _),λb hb=>(by cases hb),by simp,rfl⟩ (by omega);rintro c y t ⟨i,z1,z2,pe,pb,es,bs,rfl,hZ,gD,hi,hc,vH,sj,uP,M6,H8,gR⟩ rec aP;simp only[Zg 4 z1 pe _ hZ,Zg 1 z2 pb _ gD,av,aq];have tE:2^i<=2^12:=l9 (by decide) (by omega);by_cases ax:i<12
 .have fH:=Hy (l:=r) (i:=i)
  obtain⟨k,hk⟩: ∃k,r.getD i 0=k:=⟨_,rfl⟩;rw[hk]at fH;have uL:(ints r)[i]? =some (.int .i64 k):=by rw[<-hk];exact yu
  rw[fH]at vH;rw[aw (show(i:Int)<12 by omega),ae,Za,Zb (show aQ (i:Int) 12=true from Zi ax)];simp only[bu,cP];rw[hU uL];simp only[aY];by_cases j9:k=0
  .have hR0:R=Z4 img (i+1) (r.drop (i+1)) es bs:=by
    rw[vH]
    conv=>lhs;unfold Z4
    rw[j9];rfl
   rw[j9,rr,ae];simp only[bc,aq];rw[Zc];exact aP (12-(i+1)) _ _ (by omega) ⟨i+1,4,1,pe,pb,es,bs,rfl,.inl rfl,.inl rfl,by omega,aL _,hR0,sj,uP,M6,by omega,gR⟩
  .have yS:R=(match kN img i k with|none=>none|some (eS,fK)=>Z4 img (i+1) (r.drop (i+1)) (es++eS) (bs++fK)):=by
    rw[vH]
    conv=>lhs;unfold Z4
    rw[dY.2 j9];rfl
   rw[dY.2 j9,af,Zb (show aQ (i:Int) 12=true from Zi ax),hU uL];simp only[aY];refine Ok.call (Zqy img hl i (by omega) n k t (by omega)) ?_;rintro o ⟨t1,jj,ho⟩;have IB:=sj.mono jj;have Vu:=uP.mono jj;cases hS:kN img i k with
   |none=>
    rw[hS]at ho yS;simp only at ho;subst ho;refine⟨_,t1,rfl,?_⟩;simp only[Zg 4 0 none _ (.inr rfl),Zg 1 0 none _ (.inr rfl),au,aq];rw[bp,ae];exact bad t1 IB.1 yS
   |some qq=>
    obtain⟨eS,fK⟩:=qq;rw[hS]at ho yS;obtain⟨px,py,rfl,IH,VK,VM,_⟩:=ho;refine⟨_,t1,rfl,?_⟩;have gA:=Cl hS;simp only[bc,au,aq];rw[bm,af];have r1: ∀K:ah->M ah,da px (eS.length*4) K t1=K (bM eS) t1:=λK=>by
     have:=iD IH K;rwa [Zr]at this
    rw[r1];obtain⟨p5,t5,nO,mu,CP,AW⟩:=IB.tm (β:=ah) (sz:=4) (n:=es.length) (m:=eS.length) (lim:=2199023255552) (ds:=bM eS) (by omega) (by rw[Zr]) (by rw[Zr]) (by omega);rw[AW];have vX:=jj.len;have VD:=sj.oS;have afc:=uP.oS;have VL:Sl t5 py (ints fK):=VK.fx mu (yD λb hb cV=>by have:=VM b hb;have:=VD b cV;omega);have r2: ∀K:ah->M ah,da py fK.length K t5=K (ints fK) t5:=λK=>by
     have:=iD VL K;rwa [Zw]at this
    rw[r2];have Vv:ba st t5 pb (ints bs):=Vu.xx mu (by grind) nO.1;obtain⟨p6,t6,lS,qI,vK,tA⟩:=Vv.tm (β:=ah) (sz:=1) (n:=bs.length) (m:=fK.length) (lim:=8796093022208) (ds:=ints fK) (by omega) (by rw[Zw,cP]) (by rw[Zw,cP]) (by omega);rw[tA];have VA: ∀b∈aM p5,b∉aM pb:=λb hb cV=>by
     grind
    have MX:ba st t6 p5 (bM es++bM eS):=nO.xx qI VA lS.1;rw[Zc];refine aP (12-(i+1)) _ _ (by omega) ⟨i+1,4,1,p5,p6,es++eS,bs++fK,?_,.inl rfl,.inl rfl,by omega,aL _,yS,?_,?_,λb hb cV=>?_,?_,?_⟩
    .rw[bz,bz]
     rfl
    .rw[yq];exact MX
    .rw[K9];exact lS
    .have h5l:=nO.oS b hb
     grind
    .rw[bz];omega
    grind
 .rw[aB (show ¬(i:Int)<12 by omega),af,oN]
  rw[kz (by omega)]at vH;simp only[bc,aq,Zs];refine .mk ⟨_,Zu sj.1,?_⟩;rw[vH];exact⟨pe,pb,rfl,sj.sl.fN _,uP.sl.fN _,uP.HR,sj.HR⟩
def qW (e:bh) (out:List bh):Nat->Nat
 |0=>0
 |k+1=>bif fb e (out.getD k ⟨0,0,0,0⟩)then qW e out k else k+1
def pW (out:List bh) (e:bh):List bh:=out.take (qW e out out.length)++e::out.drop (qW e out out.length)
def Z2 (l:List bh):List bh:=l.foldl pW []
theorem Zto (e:bh) (out:List bh): ∀k,qW e out k<=k
 |0=>aL _
 |k+1=>by
  unfold qW;cases fb e (out.getD k ⟨0,0,0,0⟩)with
  |true=>exact Nat.le_succ_of_le (Zto e out k)
  |false=>exact aL _
theorem SB (out:List bh) (e:bh):(pW out e).length=out.length+1:=by
 grind[pW]
theorem ZuI (e:bh):bM [e]=eR e:=by unfold bM;simp
theorem Zt3 (l:List bh) (k:Nat):bM (l.take k)=(bM l).take (k*4):=by
 rcases Nat.le_total k l.length with h|h
 .have h2:=yq (l.take k) (l.drop k)
  rw[nu]at h2;have h3:(bM (l.take k)).length=k*4:=by rw[Zr,cz];omega
  rw[h2,<-h3];simp
 .rw[dq h,dq (by rw[Zr];omega)]
theorem ZuA (l:List bh) (k:Nat):bM (l.drop k)=(bM l).drop (k*4):=by
 rcases Nat.le_total k l.length with h|h
 .have h2:=yq (l.take k) (l.drop k)
  rw[nu]at h2;have h3:(bM (l.take k)).length=k*4:=by rw[Zr,cz];omega
  rw[h2,<-h3];simp
 .rw[kz h,kz (by rw[Zr];omega)]
  rfl
theorem Zny (n:Nat) (l:List bh) (z:Nat) (p:ai) (st:St) (hz:z=4\/p=none) (hs:Sl st p (bM l)) (hl:l.length<100000) (hn:l.length+10<=n):
  Ok (λo=>∃q s',o=(.val [.slice 4 q (Z2 l).length],s')/\aD st s'/\Sl s' q (bM (Z2 l))/\∀b∈aM q,st.length<=b) (run Bd n 247 [.slice z p l.length] st):=by
 obtain⟨n,rfl⟩: ∃m,n=m+2:=⟨n-2,by omega⟩;rw[Ze,h.acR];unfold PT BY cA oj N_ pE cI az bd tU zO Li zT Lb j1;simp only[Zg 4 z p _ hz,aq,Z5];refine Ok.join λaA oN=>?_
 refine Zj _ (λc y t=>∃(i z1:Nat) (po:ai) (out:List bh),y=[.slice z1 po out.length,.int .i64 (i:Int)]/\(z1=4\/po=none)/\i<=l.length/\l.length-i<=c/\aD st t/\Sl t po (bM out)/\out=(l.take i).foldl pW []/\out.length=i/\∀b∈aM po,st.length<=b) ?_ l.length (n+1) _ _ ⟨0,0,none,[],rfl,.inr rfl,cn _,by omega,.refl _,Sl.nil _,rfl,rfl,λb hb=>by cases hb⟩ (by omega);rintro c y t ⟨i,z1,po,out,rfl,hZ,hi,hc,jj,xM,Da,iM,aff⟩ rec aP;simp only[Zg 4 z1 po _ hZ,av,aq];by_cases ax:i<l.length
 .obtain⟨i1,o1,rfl⟩:=hs.cD (by rw[Zr];omega)
  have cZ:l[i]? =some l[i]:=bU ax;have fJ:l.take (i+1)=l.take i++[l[i]]:=kS ax;generalize l[i]=e at cZ fJ;have ca:=hs.mono jj;have lde: ∀(K:ah->M ah) (u:St),Sl u (some (i1,o1)) (bM l)->bS i1 (i*4+o1) 4 K u=K (eR e) u:=λK u hu=>by
   rw[hu.xy (k:=i*4) (n:=4) (by rw[Zr];omega),Eg cZ]
  have ae6:(l.take (i+1)).foldl pW []=pW out e:=by rw[fJ,zM,<-Da];rfl
  rw[aw (show(i:Int)<(l.length:Int) by omega),ae];refine Ok.join λaI j8=>?_
  refine Ok.join λaS mw=>?_
  refine Zj _ (λc y u=>∃k:Nat,y=[.int .i64 (k:Int)]/\k<=out.length/\k<=c/\u=t/\qW e out out.length=qW e out k) ?_ out.length (n+1) _ _ (by grind) (by omega);rintro c2 y2 u ⟨k,rfl,hk,j7,rfl,vT⟩ dA kh;simp only[av,aq];have fin:qW e out out.length=k->Ok (λo=>∃q s',o=(.val [.slice 4 q (Z2 l).length],s')/\aD st s'/\Sl s' q (bM (Z2 l))/\∀b∈aM q,st.length<=b) (aS [.int .i64 (k:Int)] u):=λhp=>by
   subst mw;simp only[av,aq,bu];rw[Zb (by rw[aR,bq,bq];omega)];have h1:=xM.lY (k*4);have yP:((bM out).take (k*4)).length=k*4:=by rw[cz,Zr];omega
   have e1: ∀K:ah->M ah,da po (k*4) K u=K ((bM out).take (k*4)) u:=λK=>by
    have:=iD h1 K;rwa [yP]at this
   rw[e1];obtain⟨r1,s1,pS,UZ⟩:=(ba.nil (aD.refl u)).L8 (β:=ah) (sz:=4) (n:=0) (m:=k) (lim:=2199023255552) (ds:=(bM out).take (k*4)) (by omega) rfl yP (by omega);rw[UZ,gU]at*
   rw[aX,Zb (Zi ax),lde _ s1 (ca.mono pS.1)];unfold eR;simp only[av,aq];obtain⟨r2,s2,c8,uI⟩:=pS.push (β:=ah) (sz:=4) (n:=0+k) (lim:=2199023255552) [.int .i64 e.slot,.int .i64 e.gen,.int .i64 e.key,.int .i64 e.value] (by omega) (by rw[yP];omega) rfl (by omega);rw[uI];rw[Zb (by rw[aR,bq,bq];omega)];have h2:=(xM.mono c8.1).cU (k:=k*4) (by rw[Zr];omega);have HU:((bM out).drop (k*4)).length=(out.length-k)*4:=by rw[dT,Zr];omega
   have e2: ∀K:ah->M ah,da (cU true po (k*4)) ((out.length-k)*4) K s2=K ((bM out).drop (k*4)) s2:=λK=>by
    have:=iD h2 K;rwa [HU]at this
   rw[e2];obtain⟨r3,s3,kd,U0⟩:=c8.L8 (β:=ah) (sz:=4) (n:=0+k+1) (m:=out.length-k) (lim:=2199023255552) (ds:=(bM out).drop (k*4)) (by omega) (by rw[bz,yP];simp;omega) HU (by omega);rw[U0,j8];simp only[bc,aq];have fO:(bM out).take (k*4)++[.int .i64 e.slot,.int .i64 e.gen,.int .i64 e.key,.int .i64 e.value]++(bM out).drop (k*4)=bM (pW out e):=by
    unfold pW;rw[hp,yq,Zt3,show e::out.drop k=[e]++out.drop k from rfl,yq,ZuI,ZuA,fD];rfl
   rw[fO]at kd;rw[Zc];refine aP (l.length-(i+1)) _ _ (by omega) ⟨i+1,4,r3,pW out e,?_,.inl rfl,by omega,aL _,jj.trans kd.1,kd.sl,ae6.symm,by rw[SB,iM],λb hb=>gH jj.len (kd.HR b hb)⟩;rw[SB,show 0+k+1+(out.length-k)=out.length+1 by omega];rfl
  rw[Za];cases k with
  |zero=>
   rw[aB (by omega),af];simp only[au,aq,af];exact fin vT
  |succ k=>
   rw[aw (show((k+1:Nat):Int)>0 by omega),ae,aX,Zb (Zi ax)];simp only[bu];rw[lde _ u ca];unfold eR;simp only[av,aq];obtain⟨i5,o5,rfl⟩:=xM.cD (by rw[Zr];omega);have aN:out[k]? =some (out.getD k ⟨0,0,0,0⟩):=by
    rw[dX,bU (show k<out.length by omega)];rfl
   have oR:qW e out (k+1)=bif fb e (out.getD k ⟨0,0,0,0⟩)then qW e out k else k+1:=rfl;generalize out.getD k ⟨0,0,0,0⟩=f at aN oR;have qT:ar (((k+1:Nat):Int)-1)=((k:Nat):Int):=by rw[Zc];omega
   rw[qT,aX,Zb (Zi)];simp only[bu];rw[xM.xy (k:=k*4) (n:=4) (by rw[Zr];omega),Eg aN];unfold eR;simp only[av,aq];have Fi:=Pe n e f u;unfold eR at Fi;rw[Zk Fi];simp only[au,aq];grind
 .rw[aB (show ¬(i:Int)<(l.length:Int) by omega),af,oN]
  simp only[bc,aq,Zs];rw[dq (by omega)]at Da;have hss:out=Z2 l:=Da;rw[hss]at xM⊢;exact .mk ⟨po,_,rfl,Zu jj,xM.fN _,aff⟩
def tI (l:List ZC):ah:=(l.map ZW).flatten
def Gm (l:List ZC):Prop:=∀x∈l,x.df.length=12/\x.name.length<=28
theorem z8 {x:ZC} (h:x.df.length=12):(ZW x).length=14:=by
 unfold ZW;rw[cH,cH,Zw,h]
theorem Hm: ∀ {l:List ZC},Gm l->(tI l).length=l.length*14
 |[],_=>rfl
 |x::l,h=>by
  have h1:=z8 (h x oa).1;have h2:=Hm (l:=l) λy hy=>h y (rp _ hy)
  show(ZW x++tI l).length=_;rw[bz,h1,h2,cH];omega
theorem Lz: ∀ {l:List ZC},Gm l->∀ {j:Nat} {x:ZC},l[j]? =some x->∀k,k<14->(tI l)[j*14+k]? =(ZW x)[k]?
 |[],_,_,_,h,_,_=>by cases h
 |y::l,hq,j,x,h,k,hk=>by
  have h1:=z8 (hq y oa).1;show(ZW y++tI l)[j*14+k]? =_;cases j with
  |zero=>
   cases h;rw[od,ej,l8 (by omega)]
  |succ j=>
   rw[jY (by omega),h1,show(j+1)*14+k-14=j*14+k by omega];exact Lz (λz hz=>hq z (rp _ hz)) (by simpa using h) k hk
theorem Zwr (l:List ZC) (x:ZC):tI (l++[x])=tI l++ZW x:=by unfold tI;simp
def wi (qs:List ZC) (q:ZC):Bool:=match qs.getLast? with
 |none=>true
 |some p=>decide (cmpL (dp p.name) (dp q.name)<0)
def lX (img:aj):List ZC->ak->Option (List ZC)
 |qs,[]=>some qs
 |qs,k::r=>match ja img k with
  |none=>none
  |some c=>match ZD c with
   |none=>none
   |some q=>bif wi qs q then lX img (qs++[q]) r else none
def uX (img:aj) (dir:Int):Option (List ZC×ak):=if dir=0 then some ([],[])else match ja img dir with
 |none=>none
 |some b=>match kD b with
  |none=>none
  |some l=>match lX img [] l with
   |none=>none
   |some qs=>some (qs,dir::l)
def J1 (st:St) (R:Option (List ZC×ak)) (o:Out ah×St):Prop:=∃s',aD st s'/\match R with
 |none=>o=(.val [.slice 0 none 0,.slice 0 none 0,.bool false],s')
 |some (qs,bs)=>∃z p z2 q,o=(.val [.slice z p qs.length,.slice z2 q bs.length,.bool true],s')/\(z=14\/p=none)/\(z2=1\/q=none)/\Sl s' p (tI qs)/\Sl s' q (ints bs)/\Gm qs/\qs.length<=16/\bs.length<=17
theorem Zqp (n:Nat) (img:aj) (dir:Int) (st:St) (hl:img.length<1000000) (hn:3100<=n):
  Ok (J1 st (uX img dir)) (run Bd n 245 [.str img,.int .i64 dir] st):=by
 obtain⟨n,rfl⟩: ∃m,n=m+2:=⟨n-2,by omega⟩;rw[Ze,h.acP];unfold QL pB pw cA Zn iy az cQ rF eM bD Li Lb j1;simp only[bP,av,aq,Z5];obtain⟨R,hR⟩: ∃R,uX img dir=R:=⟨_,rfl⟩;rw[hR];have bad: ∀s',aD st s'->R=none->Ok (J1 st R) ((cu st.length [.slice 0 none 0,.slice 0 none 0,.bool false]:M ah) s'):=λs' hp hn=>by
  rw[hn,Zs];exact .mk ⟨_,Zu hp,rfl⟩
 unfold uX at hR;by_cases h0:dir=0
 .rw[bw h0]at hR
  rw[h0,rr,ae,Zs];refine .mk ⟨_,Zu (.refl st),?_⟩;rw[<-hR];exact⟨0,none,0,none,rfl,.inr rfl,.inr rfl,Sl.nil _,Sl.nil _,λx hx=>(by cases hx),by simp,by simp⟩
 rw[aW h0]at hR;rw[dY.2 h0,af];refine Ok.call (D2 n img dir st hl) ?_;rintro o ⟨s1,aG,ho⟩;cases mX:ja img dir with
 |none=>
  rw[mX]at ho hR;simp only at ho;subst ho;refine⟨_,s1,rfl,?_⟩;simp only[Zg 1 0 none _ (.inr rfl),au,aq];rw[bp,ae];exact bad s1 aG hR.symm
 |some b=>
 rw[mX]at ho hR;obtain⟨p,rfl,hf,pK⟩:=ho;simp only at hR;refine⟨_,s1,rfl,?_⟩;simp only[bc,au,aq];rw[bm,af];refine Ok.call (Zn1 (n+1) p b s1 hf.1 pK (by omega)) ?_;rintro o ⟨s2,aZ,ho⟩;have tE:=aG.trans aZ;cases hg:kD b with
 |none=>
  rw[hg]at ho hR;simp only at ho;subst ho;refine⟨_,s2,rfl,?_⟩;simp only[Zg 1 0 none _ (.inr rfl),au,aq];rw[bp,ae];exact bad s2 tE hR.symm
 |some l=>
 rw[hg]at ho hR;obtain⟨pl,rfl,dG,gZ⟩:=ho;simp only at hR;refine⟨_,s2,rfl,?_⟩;simp only[bc,au,aq];rw[bm,af];refine Ok.join λaA oN=>?_
 have afe:=dG.oS;refine Zj _ (λc y t=>∃(i z:Nat) (pq:ai) (qs:List ZC),y=[.slice z pq qs.length,.int .i64 (i:Int)]/\(z=14\/pq=none)/\i<=l.length/\l.length-i<=c/\ba st t pq (tI qs)/\Gm qs/\qs.length=i/\lX img [] l=lX img qs (l.drop i)/\Sl t pl (ints l)/\(∀b∈aM pq,s2.length<=b)/\s2.length<=t.length) ?_ l.length (n+1) _ _ ⟨0,0,none,[],rfl,.inr rfl,cn _,by omega,.nil tE,λx hx=>(by cases hx),rfl,by rw[dj],dG,λb hb=>(by cases hb),aL _⟩ (by omega);rintro c y t ⟨i,z,pq,qs,rfl,hz,hi,hc,gC,uE,y8,II,Nf,hpq,Df⟩ rec aP;simp only[Zg 14 z pq _ hz,av,aq];by_cases ax:i<l.length
 .have fH:=Hy (l:=l) (i:=i) ax
  obtain⟨k,hk⟩: ∃k,l.getD i 0=k:=⟨_,rfl⟩;rw[hk]at fH;have uL:(ints l)[i]? =some (.int .i64 k):=by rw[<-hk];exact yu ax
  obtain⟨i1,o1,rfl⟩:=Nf.cD (by rw[Zw];omega);rw[aw (show(i:Int)<(l.length:Int) by omega),ae,aX,Zb (Zi ax)];simp only[bu];rw[Nf.dL uL];simp only[aY];rw[fH]at II;have fail: ∀u,aD st u->lX img qs (k::l.drop (i+1))=none->Ok (J1 st R) ((cu st.length [.slice 0 none 0,.slice 0 none 0,.bool false]:M ah) u):=λu hu hf=>by
   refine bad u hu ?_;rw[II,hf]at hR;exact hR.symm
  refine Ok.call (D2 n img k t hl) ?_;rintro o ⟨t1,jj,ho⟩;have FF:=gC.mono jj;cases Io:ja img k with
  |none=>
   rw[Io]at ho;simp only at ho;subst ho;refine⟨_,t1,rfl,?_⟩;simp only[Zg 1 0 none _ (.inr rfl),au,aq];rw[bp,ae];exact fail t1 FF.1 (by unfold lX;rw[Io])
  |some cb=>
   rw[Io]at ho;obtain⟨pc,rfl,MH,adV⟩:=ho;refine⟨_,t1,rfl,?_⟩;simp only[bc,au,aq];rw[bm,af];refine Ok.call (Zr6 (n+1) pc cb t1 MH.1 adV (by omega)) ?_;rintro o ⟨t2,VH,ho⟩;have qO:=FF.mono VH;cases Ib:ZD cb with
   |none=>
    rw[Ib]at ho;simp only at ho;subst ho;refine⟨_,t2,rfl,?_⟩;rw[dt];have h0l:(ints CC.df).length=12:=rfl;unfold ZW;simp only[bP,av];rw[bF h0l];simp only[au,aq];rw[bF (by rw[cH,cH,h0l]),Za,bp,ae];simp only[au,aq];rw[ae];exact fail t2 qO.1 (by unfold lX;rw[Io];simp only;rw[Ib])
   |some q=>
    rw[Ib]at ho;obtain⟨rfl,vU⟩:=ho;have VN:q.name.length<=28:=by have:=(ZkT Ib).1;omega
    refine⟨_,t2,rfl,?_⟩;have oH:ZW q=DV.str q.name::DV.int .i64 (q.mask:Int)::ints q.df:=rfl;rw[dt,oH];simp only[bP,av];have aeu:(ints q.df).length=12:=by rw[Zw];exact vU
    rw[bF aeu];simp only[au,aq];rw[<-oH,bF (z8 vU)];have VO:lX img qs (k::l.drop (i+1))=bif wi qs q then lX img (qs++[q]) (l.drop (i+1))else none:=by
     conv=>lhs;unfold lX
     rw[Io];simp only;rw[Ib]
    have go: ∀u,aD t2 u->wi qs q=true->Ok (J1 st R) ((cg (ZW q) λi3=>bS i3 0 14 λcC=>cm 14 pq qs.length cC 1 586406201480 λp1=>rec [.slice 14 p1 (qs.length+1),.int .i64 (ar ((i:Int)+1))]) u):=λu hu MV=>by
     rw[MV,ae]at VO;have afa:=qO.mono hu;have ke:aD u (u++[some ⟨false,ZW q⟩]):= .new _ _;rw[Zy,kC (f:=false) (all:=ZW q) (by simp) (by rw[z8 vU];omega),dj,dq (by rw[z8 vU];omega)];obtain⟨p6,u6,lS,qI,vK,tA⟩:=(afa.mono ke).tm (β:=ah) (sz:=14) (n:=qs.length) (m:=1) (lim:=586406201480) (ds:=ZW q) (by omega) (Hm uE) (by rw[z8 vU]) (by omega);rw[tA,Zc];have hlen:=((jj.trans VH).trans (hu.trans ke)).len;refine aP (l.length-(i+1)) _ _ (by omega) ⟨i+1,14,p6,qs++[q],by rw[bz,iw];rfl,.inl rfl,by omega,aL _,by rw[Zwr];exact lS,λx hx=>?_,by rw[bz,iw,y8],by rw[II,VO],?_,?_,by have:=qI.1;omega⟩
     .rcases fE.1 hx with hx|hx
      .exact uE x hx
      .rw[cj.1 hx];exact⟨vU,VN⟩
     .exact(Nf.mono ((jj.trans VH).trans (hu.trans ke))).fx qI (yD λb hb cV=>by have:=afe b hb;have:=hpq b cV;omega)
     .intro b hb
      rcases vK b hb with h1|h1
      .exact hpq b h1
      .omega
    rw[Za,bm,af,Za];by_cases uM:i=0
    .have afm:qs=[]:=wG.1 (by omega)
     rw[aB (show ¬(i:Int)>0 by omega),af];simp only[au,aq];rw[af,bF (z8 vU)];exact go t2 (.refl _) (by rw[afm];rfl)
    .have hx:qs[i-1]? =some (qs[i-1]'(by omega)):=bU (by omega)
     have Il:qs.getLast?=qs[i-1]? :=by rw[List.getLast?_eq_getElem?,y8]
     have adU:=uE _ (jG (show i-1<qs.length by omega));generalize qs[i-1]'(by omega)=pv at hx adU;obtain⟨i5,o5,rfl⟩:=qO.sl.cD (by rw[Hm uE];omega);have cL:(tI qs)[(i-1)*14]? =some (.str pv.name):=by
      have:=Lz uE hx 0 (by omega);rw[fT]at this;rw[this];rfl
     rw[aw (show(i:Int)>0 by omega),ae,aX,Zc,show(i:Int)-1=((i-1:Nat):Int) by omega,Zb (Zi (show i-1<qs.length by omega))];simp only[bu];rw[qO.sl.get cL];simp only[wJ];refine Ok.call (Ziw (n+1) pv.name q.name (by omega) (by omega) (by omega) (by omega) t2) ?_;rintro _ ⟨t3,rfl,YE⟩;refine⟨_,t3,rfl,?_⟩;simp only[av,au,aq];have MV:wi qs q=decide (cmpL (dp pv.name) (dp q.name)<0):=by
      unfold wi;rw[Il,hx]
     by_cases MC:cmpL (dp pv.name) (dp q.name)>=0
     .rw[aw MC,ae]
      refine fail t3 (qO.mono YE).1 ?_;rw[VO,MV,aB (by omega)];rfl
     .rw[aB MC,af,bF (z8 vU)]
      exact go t3 YE (by rw[MV];exact aw (by omega))
 .rw[aB (show ¬(i:Int)<(l.length:Int) by omega),af,oN]
  rw[kz (by omega)]at II;rw[II]at hR;simp only[bc,aq];rw[Zy];have ke:aD t (t++[some ⟨false,[.int .i64 dir]⟩]):= .new _ _;have ae9:=gC.mono ke;have r1: ∀K:ah->M ah,da pl (l.length*1) K (t++[some ⟨false,[.int .i64 dir]⟩])=K (ints l) (t++[some ⟨false,[.int .i64 dir]⟩]):=λK=>by
   have:=iD (Nf.mono ke) K;rwa [Zw,<-cP l.length]at this
  rw[r1];have hod:ba st (t++[some (⟨false,[.int .i64 dir]⟩:bT)]) (some (t.length,0)) (ints [dir]):=⟨gC.1.trans ke,.inr ⟨t.length,rfl,gC.1.len,by simp[ints]⟩⟩;obtain⟨p6,u6,lS,qI,vK,tA⟩:=hod.tm (β:=ah) (sz:=1) (n:=1) (m:=l.length) (lim:=8796093022208) (ds:=ints l) (by omega) rfl (by rw[Zw,cP]) (by omega);have afl:=gC.oS;have ae8:ba st u6 pq (tI qs):=ae9.xx qI (λb hb cV=>by have:=afl b hb;have:=cj.1 cV;omega) lS.1;rw[tA,Zs];refine .mk ⟨_,Zu lS.1,?_⟩;rw[<-hR];refine⟨14,pq,1,p6,?_,.inl rfl,.inl rfl,ae8.sl.fN _,?_,uE,by omega,by simp;omega⟩
  .rw[cH,sN 1 l.length]
  .have:ints (dir::l)=ints [dir]++ints l:=rfl
   rw[this];exact lS.sl.fN _
def lj (img:aj) (top:Int) (u:Nat) (g:Int):Nat->Nat->List bA->Option (List bA)
 |0,_,l=>some l
 |c+1,i,l=>match lP img top i with
  |none=>none
  |some s=>bif decide (u<=i)then(bif nD s then lj img top u g c (i+1) l else none)else(bif decide (s.gen<1)||decide (s.gen>g)then none else lj img top u g c (i+1) (l++[s]))
def qy (img:aj) (x:eC):Option (List bA×ak):=match xb img x.cc with
 |none=>none
 |some pg=>bif decide (pg.length=(x.used.toNat+6)/7+oE x.used.toNat)then(match lj img x.cc x.used.toNat x.g (7*((x.used.toNat+6)/7)) 0 []with
  |none=>none
  |some l=>some (l,pg))else none
def Og (st:St) (R:Option (List bA×ak)) (o:Out ah×St):Prop:=∃s',aD st s'/\match R with
 |none=>o=(.val [.slice 0 none 0,.slice 0 none 0,.bool false],s')
 |some (l,pg)=>∃p q,o=(.val [.slice 3 p l.length,.slice 1 q pg.length,.bool true],s')/\Sl s' p (bR l)/\Sl s' q (ints pg)
theorem ZrB {a:Nat} (h:a<=1792):oE a<=17:=by
 grind[oE]
theorem Zox (n:Nat) (img:aj) (x:eC) (pc:ai) (st:St) (hl:img.length<1000000) (hx:qf x) (hn:4000<=n):
  Ok (Og st (qy img x)) (run Bd n 243 [.str img,.agg (dS x pc)] st):=by
 obtain⟨n,rfl⟩: ∃m,n=m+1:=⟨n-1,by omega⟩;rw[Ze,h.acN];unfold PD J9 pw az cA cQ qo iy mK eM rF Li yp rC Lb j1;simp only[bP];rw[dt];unfold dS;simp only[av,bc,aq,Z5];obtain⟨g1,g2,g3,g4,_,_⟩:=Z3 hx.g;have vY:=hx.u0;have zg:=hx.u1;obtain⟨u,hu⟩: ∃u:Nat,x.used=(u:Int):=⟨x.used.toNat,by omega⟩;have V0:x.used.toNat=u:=by omega
 have xN:u<=1792:=by omega
 obtain⟨R,hR⟩: ∃R,qy img x=R:=⟨_,rfl⟩;rw[hR,hu];have bad: ∀s',aD st s'->R=none->Ok (Og st R) ((cu st.length [.slice 0 none 0,.slice 0 none 0,.bool false]:M ah) s'):=λs' hp hn=>by
  rw[hn,Zs];exact .mk ⟨_,Zu hp,rfl⟩
 unfold qy at hR;rw[V0]at hR;refine Ok.call (Zoy n img x.cc st hl (by omega)) ?_;rintro o ⟨s1,aG,ho⟩;have lv: ∀t,Ok (λo=>o=(.val [.int .i64 (((u+6)/7:Nat):Int)],t)) (run Bd n 266 [.int .i64 (u:Int)] t):=λt=>ZiX n u (by omega) t
 cases hP:xb img x.cc with
 |none=>
  rw[hP]at ho hR;simp only at ho;subst ho;refine⟨_,s1,rfl,?_⟩;simp only[Zg 1 0 none _ (.inr rfl),au,aq];rw[Za,bp,ae];simp only[au,aq];rw[ae];exact bad s1 aG hR.symm
 |some pg=>
  rw[hP]at ho hR;obtain⟨q,rfl,hq⟩:=ho;simp only at hR;refine⟨_,s1,rfl,?_⟩;simp only[bc,au,aq];rw[Za,bm,af];obtain⟨_,e1,rfl⟩:=lv s1;rw[wY e1];simp only[av,aq];obtain⟨_,e2,rfl⟩:=ZqI n u (by omega) s1 (by omega);rw[wY e2];simp only[av,au,aq];have hfn:=ZrB xN;rw[Zc (x:=(((u+6)/7:Nat):Int)+(oE u:Int))];have UW:(((pg.length:Nat):Int)==(((u+6)/7:Nat):Int)+(oE u:Int))=decide (pg.length=(u+6)/7+oE u):=by
   have:=nE pg.length ((u+6)/7+oE u) ((((u+6)/7:Nat):Int)+(oE u:Int));exact this
  rw[UW];cases hc:decide (pg.length=(u+6)/7+oE u)with
  |false=>
   rw[hc,af]at hR;rw[bp,ae];grind
  |true=>
  rw[hc,ae]at hR;rw[bm,af];refine Ok.join λaI j8=>?_
  obtain⟨m,hm⟩: ∃m,7*((u+6)/7)=m:=⟨_,rfl⟩;rw[hm]at hR;refine Zj _ (λc y t=>∃(i z:Nat) (pl:ai) (l:List bA),y=[.slice z pl l.length,.int .i64 (i:Int)]/\(z=3\/pl=none)/\i<=m/\m-i<=c/\ba st t pl (bR l)/\l.length<=i/\lj img x.cc u x.g m 0 []=lj img x.cc u x.g (m-i) i l/\Sl t q (ints pg)/\(∀b∈aM pl,s1.length<=b)/\s1.length<=t.length) ?_ m n _ _ ⟨0,0,none,[],rfl,.inr rfl,cn _,by omega,.nil aG,aL _,rfl,hq,λb hb=>(by cases hb),aL _⟩ (by omega);have y8:=hq.oS;rintro c y t ⟨i,z,pl,l,rfl,hz,hi,MB,gC,gZ,aN,VP,lr,ca⟩ rec aP;simp only[Zg 3 z pl _ hz,av,aq];obtain⟨_,e3,rfl⟩:=lv t;rw[Zk e3];simp only[av,aq];rw[Zc (x:=7*(((u+6)/7:Nat):Int)),show 7*(((u+6)/7:Nat):Int)=(m:Int) by omega];by_cases ax:i<m
  .rw[aw (show(i:Int)<(m:Int) by omega),ae]
   obtain⟨r,hr⟩: ∃r,m-i=r+1:=⟨m-i-1,by omega⟩;rw[hr]at aN;have jM:m-(i+1)=r:=by omega
   refine Ok.call (Zqo n img x.cc i t hl (by omega) (by omega)) ?_;rintro _ ⟨t1,rfl,jj⟩;have FF:=gC.mono jj;refine⟨_,t1,rfl,?_⟩;rw[dt];unfold ez;simp only[au,av,aq];have fail:lj img x.cc u x.g (r+1) i l=none->Ok (Og st R) ((cu st.length [.slice 0 none 0,.slice 0 none 0,.bool false]:M ah) t1):=λhf=>by
    refine bad t1 FF.1 ?_;rw[aN,hf]at hR;exact hR.symm
   rw[Za];cases hF:lP img x.cc i with
   |none=>
    rw[show(!(none:Option bA).isSome)=true from rfl,ae];simp only[au,aq];rw[Za,ae];simp only[au,aq];rw[ae];exact fail (by unfold lj;rw[hF])
   |some s=>
    have dW:lj img x.cc u x.g (r+1) i l=bif decide (u<=i)then(bif nD s then lj img x.cc u x.g r (i+1) l else none)else(bif decide (s.gen<1)||decide (s.gen>x.g)then none else lj img x.cc u x.g r (i+1) (l++[s])):=by
     conv=>lhs;unfold lj
     rw[hF]
    rw[show(!(some s).isSome)=false from rfl,af,show(some s).getD jl=s from rfl];have IM:((s.live==false)&&((s.gen==0)&&((s.block==0)&&true)))=nD s:=rfl;rw[IM,Za];by_cases hiu:u<=i
    .rw[aw hiu,ae]at dW
     rw[aw (show(i:Int)>=(u:Int) by omega),ae];simp only[au,aq];rw[Za];cases v8:nD s with
     |false=>
      rw[v8,af]at dW;rw[bp,ae];simp only[au,aq];rw[ae];exact fail dW
     |true=>
      rw[v8,ae]at dW;rw[bm,af,Za,aB (show ¬(i:Int)<(u:Int) by omega),af];simp only[au,aq];rw[af,Za,af];simp only[bc,aq];rw[Zc];exact aP (m-(i+1)) _ _ (by omega) ⟨i+1,3,pl,l,rfl,.inl rfl,by omega,aL _,FF,by omega,by rw[aN,dW,jM],VP.mono jj,lr,by have:=jj.len;omega⟩
    .rw[aB hiu,af]at dW
     rw[aB (show ¬(i:Int)>=(u:Int) by omega),af];simp only[au,aq];rw[Za,af,Za,aw (show(i:Int)<(u:Int) by omega),ae,Za];by_cases nM:s.gen<1
     .rw[aw nM,zJ,ae]at dW
      rw[aw nM,ae];simp only[au,aq];rw[ae];exact fail dW
     .rw[aB nM,sK]at dW
      rw[aB nM,af];simp only[au,aq];by_cases pO:s.gen>x.g
      .rw[aw pO,ae]at dW
       rw[aw pO,ae];exact fail dW
      .rw[aB pO,af]at dW
       rw[aB pO,af,Za,ae];have VQ:([.bool s.live,.int .i64 s.gen,.int .i64 s.block]:ah)=ez s:=rfl;rw[VQ];have ke:aD t1 (t1++[some ⟨false,ez s⟩]):= .new _ _;rw[Zy,kC (f:=false) (all:=ez s) (by simp) (by show 0+3<=3;omega),dj,dq (show(ez s).length<=3 from aL _)];obtain⟨p6,u6,lS,qI,vK,tA⟩:=(FF.mono ke).tm (β:=ah) (sz:=3) (n:=l.length) (m:=1) (lim:=2932031007402) (ds:=ez s) (by omega) (Zz l) rfl (by omega);rw[tA];simp only[bc,aq];rw[Zc];have hlen:=(jj.trans ke).len;refine aP (m-(i+1)) _ _ (by omega) ⟨i+1,3,p6,l++[s],by rw[bz,iw];rfl,.inl rfl,by omega,aL _,?_,by rw[bz,iw];omega,by rw[aN,dW,jM],?_,λb hb=>?_,by have:=qI.1;omega⟩
       .rw[G3]
        have:bR [s]=ez s:=by unfold bR;simp
        rw[this];exact lS
       .exact(VP.mono (jj.trans ke)).fx qI (yD λb hb cV=>by have:=y8 b hb;have:=lr b cV;omega)
       grind
  .rw[aB (show ¬(i:Int)<(m:Int) by omega),af,j8]
   rw[show m-i=0 by omega]at aN;rw[aN]at hR;simp only[bc,aq,Zs];refine .mk ⟨_,Zu gC.1,?_⟩;rw[<-hR];exact⟨pl,q,rfl,gC.sl.fN _,VP.fN _⟩
def mm (l:List bA) (u g:Int):Nat->Int->ak->Option (ak)
 |0,_,_=>none
 |f+1,k,out=>bif k==0 then some out else(bif decide (k>u)then none else(match l[(k-1).toNat]? with
  |none=>none
  |some s=>bif s.live then none else(bif decide (s.gen>=g)then none else(bif decide (k-1∈out)then none else mm l u g f s.block (out++[k-1])))))
def sC (g:Int) (out:ak) (i:Nat) (s:bA):Bool:=bif s.live then true else(bif decide (s.gen<g)then decide ((i:Int)∈out)else(bif s.gen==g then s.block==0 else true))
def rM (g:Int) (out:ak):Nat->List bA->Bool
 |_,[]=>true
 |i,s::r=>bif sC g out i s then rM g out (i+1) r else false
def uC (l:List bA) (x:eC):Option (ak):=match mm l x.used x.g (l.length+2) x.free []with
 |none=>none
 |some out=>bif rM x.g out 0 l then some out else none
def BT (st:St) (R:Option (ak)) (o:Out ah×St):Prop:=∃s',aD st s'/\match R with
 |none=>o=(.val [.slice 0 none 0,.bool false],s')
 |some l=>∃z p,o=(.val [.slice z p l.length,.bool true],s')/\(z=1\/p=none)/\Sl s' p (ints l)
theorem GY {x:bA} (h:l[j]? =some x) (k:Nat) (hk:k<3:=by omega):(bR l)[j*3+k]? =(ez x)[k]? :=by
 have:=RY h;grind
theorem Zqq (n:Nat) (l:List bA) (z:Nat) (p:ai) (x:eC) (pc:ai) (st:St) (hz:z=3\/p=none) (hs:Sl st p (bR l)) (gZ:(l.length:Int)=x.used) (mW:l.length<=1792) (hr: ∀s∈l,s.live=false->0<=s.block/\s.block<=5000) (hf:0<=x.free/\x.free<=5000) (hn:4000<=n):
  Ok (BT st (uC l x)) (run Bd n 244 [.slice z p l.length,.agg (dS x pc)] st):=by
 obtain⟨n,rfl⟩: ∃m,n=m+1:=⟨n-1,by omega⟩;rw[Ze,h.acO];unfold P9 ZZ gk Q_ cI N_ ql az Zm bd lJ tT Li Lb eW bD j1;simp only[Zg 3 z p _ hz];rw[dt];unfold dS;simp only[av,bc,aq,Z5];obtain⟨R,hR⟩: ∃R,uC l x=R:=⟨_,rfl⟩;rw[hR];have bad: ∀s',aD st s'->R=none->Ok (BT st R) ((cu st.length [.slice 0 none 0,.bool false]:M ah) s'):=λs' hp hn=>by
  rw[hn,Zs];exact .mk ⟨_,Zu hp,rfl⟩
 unfold uC at hR;have Dq: ∀(t:St) (j:Nat) (s:bA),Sl t p (bR l)->l[j]? =some s->∃i o,p=some (i,o)/\(∀K:DV->M ah,bG i (j*3+o) K t=K (.bool s.live) t)/\(∀K:DV->M ah,bG i (j*3+o+1) K t=K (.int .i64 s.gen) t)/\∀K:DV->M ah,bG i (j*3+o+2) K t=K (.int .i64 s.block) t:=λt j s ht hj=>by
  have tC:=(dB.1 hj).1;obtain⟨i,o,rfl⟩:=ht.cD (by rw[Zz];omega);refine⟨i,o,rfl,λK=>?_,λK=>?_,λK=>?_⟩
  .have:=ht.get (β:=ah) (by rw[GY hj 0];rfl) K
   exact this
  .have:=ht.get (β:=ah) (by rw[GY hj 1];rfl) K
   rw[show j*3+o+1=j*3+1+o by omega];exact this
  .have:=ht.get (β:=ah) (by rw[GY hj 2];rfl) K
   rw[show j*3+o+2=j*3+2+o by omega];exact this
 refine Ok.join λaA oN=>?_
 refine Zj _ (λc y t=>∃(k:Int) (f z1:Nat) (po:ai) (out:ak),y=[.slice z1 po out.length,.int .i64 k]/\(z1=1\/po=none)/\(0<=k/\k<=5000)/\out.length+f=l.length+1/\f<=c/\ba st t po (ints out)/\out.Nodup/\(∀j∈out,0<=j/\j<(l.length:Int))/\mm l x.used x.g (l.length+2) x.free []=mm l x.used x.g (f+1) k out/\Sl t p (bR l)) ?_ (l.length+1) n _ _ ⟨x.free,l.length+1,0,none,[],rfl,.inr rfl,hf,by simp,aL _,.nil (.refl _),.nil,λj hj=>(by cases hj),rfl,hs⟩ (by omega);rintro c y t ⟨k,f,z1,po,out,rfl,hZ,hk,eu,MH,gC,jz,fO,aN,ca⟩ rec aP;simp only[Zg 1 z1 po _ hZ,av,aq];have jL:(ints out).length=out.length*1:=by rw[Zw,cP]
 have fail: ∀u,aD st u->mm l x.used x.g (f+1) k out=none->Ok (BT st R) ((cu st.length [.slice 0 none 0,.bool false]:M ah) u):=λu hu hf=>by
  refine bad u hu ?_;rw[aN,hf]at hR;exact hR.symm
 by_cases j9:k=0
 .have aeh:mm l x.used x.g (f+1) k out=some out:=by unfold mm;rw[j9];rfl
  rw[aN,aeh]at hR;simp only at hR;rw[j9,show(!((0:Int)==0))=false from rfl,af,oN];simp only[bc,aq];refine Ok.join λaI j8=>?_
  refine Zj _ (λc y u=>∃i:Nat,y=[.int .i64 (i:Int)]/\i<=l.length/\l.length-i<=c/\u=t/\rM x.g out 0 l=rM x.g out i (l.drop i)) ?_ l.length n _ _ ⟨0,rfl,cn _,by omega,rfl,rfl⟩ (by omega);rintro c2 y2 u ⟨i,rfl,hi,j7,rfl,xK⟩ dA kh;simp only[av,aq];by_cases ax:i<l.length
  .have cZ:l[i]? =some l[i]:=bU ax
   have fH:l.drop i=l[i]::l.drop (i+1):=iI ax;generalize l[i]=s at cZ fH;rw[fH]at xK;have FN:rM x.g out 0 l=bif sC x.g out i s then rM x.g out (i+1) (l.drop (i+1))else false:=xK;obtain⟨pi,Jn,rfl,zs,ld1,Wi⟩:=Dq u i s ca cZ;have yN:sC x.g out i s=true->Ok (BT st R) (dA [.int .i64 (ar ((i:Int)+1))] u):=λhb=>by
    rw[hb,ae]at FN;rw[Zc];exact kh (l.length-(i+1)) _ _ (by omega) ⟨i+1,rfl,by omega,aL _,rfl,FN⟩
   have JC:sC x.g out i s=false->Ok (BT st R) ((cu st.length [.slice 0 none 0,.bool false]:M ah) u):=λhb=>by
    rw[hb,af]at FN;rw[FN]at hR;exact bad u gC.1 hR.symm
   rw[aw (by omega),ae,aX,Zb (Zi ax)];simp only[bu];rw[zs];simp only[sP];rw[Za];cases fj:s.live with
   |true=>
    have hb:sC x.g out i s=true:=by unfold sC;rw[fj];rfl
    rw[bm,af];simp only[au,aq];rw[Za,af];simp only[au,aq];rw[Za,af,aX,Zb (Zi ax),zs];simp only[sP];rw[Za,fj,bm,af];simp only[au,aq];rw[Za,af];simp only[au,aq];rw[af];exact yN hb
   |false=>
    have hb:sC x.g out i s=(bif decide (s.gen<x.g)then decide ((i:Int)∈out)else(bif s.gen==x.g then s.block==0 else true)):=by unfold sC;rw[fj];rfl
    rw[bp,ae,aX,Zb (Zi ax),ld1];simp only[aY,au,aq];rw[Za];have second:decide (s.gen<x.g)=false\/decide ((i:Int)∈out)=true->∀cd:ah->M ah,(∀b,cd [.bool b] u=(bif b then(cu st.length [.slice 0 none 0,.bool false]:M ah)else dA [.int .i64 (ar ((i:Int)+1))]) u)->
      Ok (BT st R) ((bif s.gen==x.g then cd [.bool (!(s.block==0))]else cd [.bool false]) u):=λmq cd Bg=>by
     cases tB:(s.gen==x.g)with
     |true=>
      have ahp:=eq_of_beq tB;rw[ae,Bg];have cV:sC x.g out i s=(s.block==0):=by
       rw[hb,aB (by omega),af,tB,ae]
      cases gR:(s.block==0)with
      |true=>rw[bm,af];exact yN (by rw[cV,gR])
      |false=>rw[bp,ae];exact JC (by rw[cV,gR])
     |false=>
      rw[af,Bg,af];refine yN ?_;rw[hb,tB,af];rcases mq with h1|h1
      .rw[h1];rfl
      .rw[h1];cases decide (s.gen<x.g)<;>rfl
    have aan:decide (s.gen<x.g)=false\/decide ((i:Int)∈out)=true->Ok (BT st R) ((bJ (some (pi,Jn)) λi2 o1=>aC (aQ (i:Int) l.length)<|bG i2 (i*3+o1) λd1=>tj d1 λx1=>
      cK (λWY=>gW WY λb4 WZ=>aJ WZ<|cK (λagy=>gW agy λb5 agz=>aJ agz<|
       (bif b5 then(cu st.length [.slice 0 none 0,.bool false]:M ah)else dA [.int .i64 (ar ((i:Int)+1))])) λfW=>
      bif b4 then bJ (some (pi,Jn)) λi3 o2=>aC (aQ (i:Int) l.length)<|bG i3 (i*3+o2+2) λd2=>cT .i64 d2 λx2=>fW [.bool (!(x2==0))]
      else fW [.bool false]) λdw=>
      bif !x1 then bJ (some (pi,Jn)) λi4 o3=>aC (aQ (i:Int) l.length)<|bG i4 (i*3+o3+1) λd3=>cT .i64 d3 λx3=>dw [.bool (x3==x.g)]
      else dw [.bool false]) u):=λmq=>by
     rw[aX,Zb (Zi ax),zs];simp only[sP];rw[Za,fj,bp,ae,aX,Zb (Zi ax),ld1];simp only[aY,au,aq];refine Ok.join λfW aeA=>?_
     have:=second mq fW (λb=>by rw[aeA];simp only[au,aq]);cases tB:(s.gen==x.g)with
     |true=>
      rw[tB,ae]at this;rw[ae,aX,Zb (Zi ax),Wi];simp only[aY];exact this
     |false=>
      rw[tB,af]at this;rw[af];exact this
    cases hg:decide (s.gen<x.g)with
    |true=>
     rw[ae];refine Ok.call (B2 n 1 out (i:Int) po u (.inl rfl) gC.sl) ?_;rintro _ rfl;refine⟨_,u,rfl,?_⟩;simp only[au,aq];rw[Za];cases ho:decide ((i:Int)∈out)with
     |true=>
      rw[bm,af];exact aan (.inr ho)
     |false=>
      rw[bp,ae];simp only[au,aq];rw[ae];exact JC (by rw[hb,hg,ae,ho])
    |false=>
     rw[af];simp only[au,aq];rw[Za,af];exact aan (.inl hg)
  .rw[aB (by omega),af,j8]
   rw[kz (by omega)]at xK;rw[xK,show rM x.g out i []=true from rfl,ae]at hR;simp only[aq,Zs];refine .mk ⟨_,Zu gC.1,?_⟩;rw[<-hR];exact⟨1,po,rfl,.inl rfl,gC.sl.fN _⟩
 .have dW:mm l x.used x.g (f+1) k out=(bif decide (k>x.used)then none else(match l[(k-1).toNat]? with
    |none=>none
    |some s=>bif s.live then none else(bif decide (s.gen>=x.g)then none else(bif decide (k-1∈out)then none else mm l x.used x.g f s.block (out++[k-1]))))):=by
   conv=>lhs;unfold mm
   rw[dY.2 j9,af]
  rw[dY.2 j9,bp,ae,Za];by_cases MN:k>x.used
  .rw[aw MN,ae]at dW
   rw[aw MN,ae];simp only[au,aq];rw[Za,ae];simp only[au,aq];rw[Za,ae];simp only[au,aq];rw[ae];exact fail t gC.1 dW
  .rw[aB MN,af]at dW
   obtain⟨j,hj⟩: ∃j:Nat,k-1=(j:Int):=⟨(k-1).toNat,by omega⟩;have tC:j<l.length:=by omega
   have cZ:l[j]? =some l[j]:=bU tC;have lU:l[j]∈l:=jG tC;generalize l[j]=s at cZ lU;rw[hj,bu,cZ]at dW;simp only at dW;obtain⟨pi,Jn,rfl,zs,ld1,Wi⟩:=Dq t j s ca cZ;rw[aB MN,af,aX,Zc (x:=k-1),hj,Zb (Zi tC)];simp only[bu];rw[zs];simp only[sP,au,aq];rw[Za];cases fj:s.live with
   |true=>
    rw[fj,ae]at dW;rw[ae];simp only[au,aq];rw[Za,ae];simp only[au,aq];rw[ae];exact fail t gC.1 dW
   |false=>
    rw[fj,af]at dW;rw[af,aX,Zb (Zi tC),ld1];simp only[aY,au,aq];rw[Za];cases hg:decide (s.gen>=x.g)with
    |true=>
     rw[hg,ae]at dW;rw[ae];simp only[au,aq];rw[ae];exact fail t gC.1 dW
    |false=>
     rw[hg,af]at dW;rw[af];refine Ok.call (B2 n 1 out (j:Int) po t (.inl rfl) gC.sl) ?_;rintro _ rfl;refine⟨_,t,rfl,?_⟩;simp only[au,aq];cases ho:decide ((j:Int)∈out)with
     |true=>
      rw[ho,ae]at dW;rw[ae];exact fail t gC.1 dW
     |false=>
      rw[ho,af]at dW;have cx:(j:Int)∉out:=BP ho;have Yp:(out++[(j:Int)]).Nodup:=vi.2 ⟨jz,yk.2 ⟨by simp,.nil⟩,λa ha b hb e=>cx (by rw[<-cj.1 hb,<-e];exact ha)⟩;have Yg: ∀a∈out++[(j:Int)],0<=a/\a<(l.length:Int):=λa ha=>by
       rcases fE.1 ha with ha|ha
       .exact fO a ha
       .rw[cj.1 ha];omega
      have FE:=NJ l.length _ Yp Yg;rw[bz,iw]at FE;obtain⟨f,rfl⟩: ∃f',f=f'+1:=⟨f-1,by omega⟩;rw[af];have ke:aD t (t++[some ⟨false,[.int .i64 (j:Int)]⟩]):= .new _ _;rw[Zy,kC (f:=false) (all:=[.int .i64 (j:Int)]) (by simp) (by simp),dj,dq (by simp)];obtain⟨p6,u6,lS,qI,vK,tA⟩:=(gC.mono ke).tm (β:=ah) (sz:=1) (n:=out.length) (m:=1) (lim:=8796093022208) (ds:=[.int .i64 (j:Int)]) (by omega) jL rfl (by omega);rw[tA];have YN:Sl u6 (some (pi,Jn)) (bR l):=by
       refine(hs.mono (lS.1))
      obtain⟨pi2,po2,e,_,_,af2⟩:=Dq u6 j s YN cZ;cases e;rw[aX,Zb (Zi tC),af2];simp only[aY];refine aP f _ _ (by omega) ⟨s.block,f,1,p6,out++[(j:Int)],by rw[bz,iw],.inl rfl,hr s lU fj,by rw[bz,iw];omega,aL _,by rw[KW];exact lS,Yp,Yg,by rw[aN,dW],YN⟩
def xQ (m:Int) (l:ak) (a:Int):ak:=if 0<=a/\a<m/\a∉l then l.filter (λx=>decide (x<a))++a::l.filter (λx=>decide (a<x))else l
theorem Lx {l:ak} {a:Int} (h:kZ l):kZ (xQ m l a)/\∀k,k∈xQ m l a↔k∈l\/(k=a/\0<=a/\a<m):=by
 unfold xQ;by_cases hc:0<=a/\a<m/\a∉l
 .rw[bw hc]
  refine⟨?_,λk=>?_⟩
  .unfold kZ
   rw[JM];refine⟨List.Pairwise.sublist List.filter_sublist h,List.pairwise_cons.2 ⟨λx hx=>?_,List.Pairwise.sublist List.filter_sublist h⟩,λx hx y hy=>?_⟩
   .exact iR (zN.1 hx).2
   .have h1:x<a:=iR (zN.1 hx).2
    rcases dC.1 hy with rfl|hy
    .exact h1
    .have h2:a<y:=iR (zN.1 hy).2
     omega
  .rw[fE,dC,zN,zN,bq,bq]
   constructor
   .rintro(h1|h1|h1)
    .exact .inl h1.1
    .exact .inr ⟨h1,hc.1,hc.2.1⟩
    .exact .inl h1.1
   .rintro(h1|h1)
    .have du:k≠a:=λe=>hc.2.2 (by rw[<-e];exact h1)
     rcases Int.lt_or_gt_of_ne du with h2|h2
     .exact .inl ⟨h1,h2⟩
     .exact .inr (.inr ⟨h1,h2⟩)
    .exact .inr (.inl h1.1)
 .rw[aW hc]
  refine⟨h,λk=>⟨.inl,λhk=>hk.elim id λh1=>?_⟩⟩;rcases Classical.em (a∈l)with h2|h2
  .rw[h1.1];exact h2
  .exact absurd ⟨h1.2.1,h1.2.2,h2⟩ hc
def nF (m:Int):ak->ak->Option (ak)
 |[],r=>some r
 |k::a,r=>bif decide (k<2)then none else(bif decide (k∈r)then none else nF m a (xQ m r k))
def jv (u:Int) (l:List bA) (e:bh) (k:Int):Bool:=bif decide (e.slot>=u)then false else(match l[e.slot.toNat]? with
 |none=>false
 |some s=>(s.live==true)&&((s.gen==e.gen)&&((s.block==k)&&true)))
def iT (u:Int) (l:List bA):List bh->ak->Bool
 |e::es,k::ks=>bif jv u l e k then iT u l es ks else false
 |_,_=>true
def ij (im:aj) (u:Int) (l:List bA):List ZC->List dr->ak->Int->Option (List dr×ak×Int)
 |[],hs,all,lv=>some (hs,all,lv)
 |q::r,hs,all,lv=>match ui im q.df with
  |none=>none
  |some (es,ns)=>bif iT u l es ns then ij im u l r (hs++[⟨q.name,Z2 es⟩]) (all++ns) (lv-es.length)else none
def mE (l:List bA):Nat:=(l.filter (·.live)).length
def uo (img:aj) (x:eC):Option (eO×ak):=bif !Z6 x then none else(bif decide (x.blocks>((img.length/64:Nat):Int))then none else
 (match qy (img.take (64*x.blocks.toNat)) x with
 |none=>none
 |some (l,pg)=>match uC l x with
  |none=>none
  |some fr=>match uX (img.take (64*x.blocks.toNat)) x.dir with
   |none=>none
   |some (qs,bs)=>match ij (img.take (64*x.blocks.toNat)) x.used l qs [] (pg++bs) (mE l)with
    |none=>none
    |some (hs,all,lv)=>match nF x.blocks all [0,1]with
     |none=>none
     |some r=>bif lv==0 then(bif decide (r.length=all.length+2)then some (⟨x.blocks,x.cO,x.g,hs,l.map (·.gen),fr⟩,r)else none)else none))
theorem ZmI {k:Int} {m:jo} (h:tG img k=some m):ot m=true/\m.kids.length<=12:=by
 unfold tG at h;cases hl:ja img k with
 |none=>rw[hl]at h;cases h
 |some l=>rw[hl]at h;exact KQ h
theorem QN {img:aj} : ∀(j:Nat) (ks:ak) (e:bh) (es:List bh) (bs:ak),js img j ks e=some (es,bs)->∀a∈es,0<=a.slot/\a.slot<1792
 |0,_,_,_,_,h,a,ha=>by cases h;cases ha
 |j+1,ks,e,es,bs,h,a,ha=>by
  unfold js at h;cases h1:js img j ks e with
  |none=>rw[h1]at h;cases h
  |some q=>
   obtain⟨xr,xh⟩:=q;have i1:=QN j ks e xr xh h1;rw[h1]at h;simp only at h;cases h2:tG img (ks.getD j 0)with
   |none=>rw[h2]at h;cases h
   |some m=>
    rw[h2]at h;simp only at h;cases h3:decide (m.kids.length=j)with
    |false=>rw[h3]at h;cases h
    |true=>
     rw[h3,ae]at h;cases h4:js img j m.kids m.bH with
     |none=>rw[h4]at h;cases h
     |some q=>
      obtain⟨yL,vz⟩:=q;have i2:=QN j m.kids m.bH yL vz h4;rw[h4]at h;simp only at h;cases h5:fb e m.bH with
      |false=>rw[h5]at h;cases h
      |true=>
       rw[h5,ae]at h;cases h;rcases fE.1 ha with ha|ha
       .exact i1 a ha
       .rcases dC.1 ha with rfl|ha
        .exact Kr (ZmI h2).1
        .exact i2 a ha
theorem Zuz {k:Int} {bs:ak} (h:kN img d k=some (es,bs)): ∀a∈es,0<=a.slot/\a.slot<1792:=by
 unfold kN at h;cases h2:tG img k with
 |none=>rw[h2]at h;cases h
 |some m=>
  rw[h2]at h;simp only at h;cases h3:decide (m.kids.length=d)with
  |false=>rw[h3]at h;cases h
  |true=>
   rw[h3,ae]at h;cases h4:js img d m.kids m.bH with
   |none=>rw[h4]at h;cases h
   |some q=>
    obtain⟨yL,vz⟩:=q;rw[h4]at h;cases h;intro a ha;rcases dC.1 ha with rfl|ha
    .exact Kr (ZmI h2).1
    .exact QN d m.kids m.bH yL vz h4 a ha
theorem Rb {img:aj} : ∀(r:ak) (i:Nat) (es:List bh) (bs:ak) (gY:List bh) (gu:ak),Z4 img i r es bs=some (gY,gu)->i+r.length<=12->(∀a∈es,0<=a.slot/\a.slot<1792)->es.length+1<=2^i->bs.length=es.length->(∀a∈gY,0<=a.slot/\a.slot<1792)/\gY.length+1<=2^(i+r.length)/\gu.length=gY.length
 |[],i,es,bs,gY,gu,h,_,h1,h2,h3=>by cases h;exact⟨h1,h2,h3⟩
 |k::r,i,es,bs,gY,gu,h,hi,h1,h2,h3=>by
  rw[cH]at hi⊢;have gS:2^(i+1)=2^i+2^i:=by rw[vm];omega
  unfold Z4 at h;cases hk:(k==0)with
  |true=>
   rw[hk,ae]at h;have:=Rb r (i+1) es bs gY gu h (by omega) h1 (by omega) h3;rwa [show i+1+r.length=i+(r.length+1) by omega]at this
  |false=>
   rw[hk,af]at h;cases ht:kN img i k with
   |none=>rw[ht]at h;cases h
   |some q=>
    obtain⟨eS,fK⟩:=q;rw[ht]at h;obtain⟨l1,l2⟩:=Cl ht;have dG:=Zuz ht;have:=Rb r (i+1) (es++eS) (bs++fK) gY gu h (by omega) (λa ha=>(fE.1 ha).elim (h1 a) (dG a)) (by rw[bz];omega) (by rw[bz,bz];omega);rwa [show i+1+r.length=i+(r.length+1) by omega]at this
theorem Zuc {bs:ak} (h:ui img r=some (es,bs)) (hr:r.length=12):(∀a∈es,0<=a.slot/\a.slot<1792)/\es.length<4096/\bs.length=es.length:=by
 have:=Rb r 0 [] [] es bs h (by omega) (λa ha=>by cases ha) (by simp) rfl;rw[hr]at this;exact⟨this.1,by have:=this.2.1;omega,this.2.2⟩
theorem ZsY {s:bA} (h:lP img top i=some s):ZJ s=true:=by
 unfold lP at h;cases h1:gz img top with
 |none=>rw[h1]at h;cases h
 |some f=>
  rw[h1]at h;simp only at h;cases h2:gz img (f.getD (i/112) 0)with
  |none=>rw[h2]at h;cases h
  |some g=>
   rw[h2]at h;simp only at h;cases h3:jR img (g.getD (i/7%16) 0)with
   |none=>rw[h3]at h;cases h
   |some l=>
    rw[h3]at h;simp only at h;have hm:=oZ h;unfold jR at h3;by_cases hk:g.getD (i/7%16) 0=0
    .rw[bw hk]at h3
     cases h3;rw[List.eq_of_mem_replicate hm];rfl
    .rw[aW hk]at h3
     cases h4:ja img (g.getD (i/7%16) 0)with
     |none=>rw[h4]at h3;cases h3
     |some b=>
      rw[h4]at h3;simp only at h3;unfold ZH at h3;cases ho:fY b with
      |none=>rw[ho]at h3;cases h3
      |some q=>
       obtain⟨k,t,c⟩:=q;rw[ho]at h3;simp only at h3;cases hc:(decide (k=2)&&decide (t<128))with
       |false=>rw[hc]at h3;cases h3
       |true=>
        rw[hc,ae]at h3;cases hr:(ZM c t 7).all ZJ with
        |false=>rw[hr]at h3;cases h3
        |true=>
         rw[hr]at h3;cases h3;exact lA.1 hr s hm
theorem Rq {img:aj} {top:Int} {u:Nat} {g:Int} : ∀(c i:Nat) (l l':List bA),lj img top u g c i l=some l'->(∀s∈l,ZJ s=true)->l.length=min i u->(∀s∈l',ZJ s=true)/\l'.length=min (i+c) u
 |0,i,l,l',h,h1,h2=>by cases h;exact⟨h1,h2⟩
 |c+1,i,l,l',h,h1,h2=>by
  unfold lj at h;cases hf:lP img top i with
  |none=>rw[hf]at h;cases h
  |some s=>
   rw[hf]at h;simp only at h;by_cases hui:u<=i
   .rw[aw hui,ae]at h
    cases hz:nD s with
    |false=>rw[hz]at h;cases h
    |true=>
     rw[hz,ae]at h;have:=Rq c (i+1) l l' h h1 (by omega);rwa [show i+1+c=i+(c+1) by omega]at this
   .rw[aB hui,af]at h
    cases hz:(decide (s.gen<1)||decide (s.gen>g))with
    |true=>rw[hz]at h;cases h
    |false=>
     rw[hz,af]at h;have:=Rq c (i+1) (l++[s]) l' h (λa ha=>by
      rcases fE.1 ha with ha|ha
      .exact h1 a ha
      .rw[cj.1 ha];exact ZsY hf) (by rw[bz,iw];omega)
     rwa [show i+1+c=i+(c+1) by omega]at this
theorem RW {x:eC} (hx:qf x) (h:qy img x=some (l,pg)):(∀s∈l,ZJ s=true)/\(l.length:Int)=x.used/\l.length<=1792/\pg.length<=273:=by
 obtain⟨g1,g2,g3,g4,_,_⟩:=Z3 hx.g;have vY:=hx.u0;have zg:=hx.u1;unfold qy at h;cases hp:xb img x.cc with
 |none=>rw[hp]at h;cases h
 |some p=>
  rw[hp]at h;simp only at h;cases hd:decide (p.length=(x.used.toNat+6)/7+oE x.used.toNat)with
  |false=>rw[hd]at h;cases h
  |true=>
   rw[hd,ae]at h;cases hs:lj img x.cc x.used.toNat x.g (7*((x.used.toNat+6)/7)) 0 []with
   |none=>rw[hs]at h;cases h
   |some l'=>
    rw[hs]at h;cases h;obtain⟨a1,a2⟩:=Rq _ _ _ _ hs (λs hs=>by cases hs) (by simp);have:=iR hd;have hfn:=ZrB (a:=x.used.toNat) (by omega);exact⟨a1,by omega,by omega,by omega⟩
theorem ZjQ {s:bA} (h:ZJ s=true) (hl:s.live=false):0<=s.block/\s.block<=5000:=by
 unfold ZJ lh at h;rw[hl,af,aR,aR]at h;have h2:=h.2.1;by_cases h0:s.block>=0
 .rw[aw h0,ae,bq]at h2
  omega
 .rw[aB h0]at h2
  cases h2
set_option maxHeartbeats 2000000
open Go.Gv
def zz (a b c:Nat):ah:=[.int .i64 0,.int .i64 0,.int .i64 0,.slice a none 0,.slice b none 0,.slice c none 0]
def tZ (st:St) (R:Option (eO×ak)) (o:Out ah×St):Prop:=∃s',aD st s'/\match R with
 |none=>o=(.val [.agg (zz 0 0 0),.slice 0 none 0,.bool false],s')
 |some (y,r)=>∃z1 p1 p2 p3 q,o=(.val [.agg (dK y z1 p1 1 p2 1 p3),.slice 1 q r.length,.bool true],s')/\(z1=2\/p1=none)/\ny s' y p1 p2 p3/\Sl s' q (ints r)
theorem Zvt {l:List ZC} (h:Gm l) {x:ZC} (hj:l[j]? =some x):((tI l).drop (j*14+2)).take 12=ints x.df:=by
 have hx:=h x (oZ hj);refine rk λk=>?_
 rw[sL];split
 .rename_i hk
  rw[tM,show j*14+2+k=j*14+(2+k) by omega,Lz h hj (2+k) (by omega)];show(DV.str x.name::DV.int .i64 x.mask::ints x.df)[2+k]? =_;rw[show 2+k=k+1+1 by omega,qb,qb]
 .rw[nX (by rw[Zw,hx.1];omega)]
theorem Zwe {l:List bh} (h:l[j]? =some e):((bM l).drop (j*4)).take 2=[.int .i64 e.slot,.int .i64 e.gen]:=by
 have:=Eg h;have h2:=congrArg (List.take 2) this;rw[DK]at h2;exact h2
theorem ZuK (u:Int) (l:List bA) (h1:es[k]? =some e) (h2:ns[k]? =some w):iT u l (es.drop k) (ns.drop k)=bif jv u l e w then iT u l (es.drop (k+1)) (ns.drop (k+1))else false:=by
 obtain⟨a1,a2⟩:=dB.1 h1;obtain⟨b1,b2⟩:=dB.1 h2;rw[iI a1,iI b1,a2,b2];rfl
theorem ZpU (k:Nat) {s:St} : ∀ {ds:ah} {xs:List dr},je s ds xs->je (kB k s) ds xs
 |_,[],h=>h
 |_,_::_,⟨z,p,t,hz,h1,h2,h3⟩=>⟨z,p,t,hz,h1,h2.fN k,ZpU k h3⟩
theorem Zt8 (l:List bA) (s:bA):mE (l++[s])=mE l+(bif s.live then 1 else 0):=by
 grind[mE]
theorem Zq9 (l:List bA):mE l<=l.length:=List.length_filter_le _ _
theorem Zov (n:Nat) (img:aj) (x:eC) (pc:ai) (st:St) (hl:img.length<1000000) (hc:Sl st pc (ints x.aO)) (cL:x.aO.length<1000) (hn:80000<=n):
  Ok (tZ st (uo img x)) (run Bd n 211 [.str img,.agg (dS x pc)] st):=by
 obtain⟨n,rfl⟩: ∃m,n=m+1:=⟨n-1,by omega⟩;rw[Ze,h.acg];unfold Pz J9 bd az Hx pw ZK cA OW ck rL Zn mc ZgB N_ Ew ZF ua gP qo Zm ql oj wN zX eM fV Lb jf eW tU zU Li;simp only[bP];rw[dt];have Dd:=λs1 (hp:aD st s1)=>O9 n x pc s1 (hc.mono hp) cL
 have y9:=λim (hi:im.length<1000000) (hx:qf x) s1=>Zox n im x pc s1 hi hx (by omega)
 have ew:=λ(l:List bA) z p s1 hz hs gZ mW hr hf=>Zqq n l z p x pc s1 hz hs gZ mW hr hf (by omega)
 unfold dS at Dd y9 ew⊢;simp only[av,bc,aq,Z5];obtain⟨R,hR⟩: ∃R,uo img x=R:=⟨_,rfl⟩;rw[hR];have bad: ∀s',aD st s'->R=none->Ok (tZ st R) ((cu st.length [.agg [.int .i64 0,.int .i64 0,.int .i64 0,.slice 0 none 0,.slice 0 none 0,.slice 0 none 0],.slice 0 none 0,.bool false]:M ah) s'):=λs' hp hn=>by
  rw[hn,Zs];exact .mk ⟨_,Zu hp,rfl⟩
 unfold uo at hR;refine Ok.call (Dd st (.refl st)) ?_;rintro _ ⟨s1,rfl,aG⟩;refine⟨_,s1,rfl,?_⟩;simp only[au,aq];rw[Za];cases hS:Z6 x with
 |false=>
  rw[hS,bp,ae]at hR;rw[bp,ae];simp only[au,aq];rw[ae];exact bad s1 aG hR.symm
 |true=>
 have hx:=(zZ x).1 hS;obtain⟨g1,g2,g3,g4,g5,g6⟩:=Z3 hx.g;have xD:=hx.f0;have CV:=hx.f1;rw[hS,bm,af]at hR;have ediv:ar (((img.length:Nat):Int).tdiv 64)=((img.length/64:Nat):Int):=by
  rw[show((img.length:Nat):Int).tdiv 64=((img.length/64:Nat):Int)from rfl];exact Zc
 rw[bm,af,ediv];simp only[au,aq];by_cases gR:x.blocks>((img.length/64:Nat):Int)
 .rw[aw gR,ae]at hR
  rw[aw gR,ae];grind
 rw[aB gR,af]at hR;rw[aB gR,af];obtain⟨m,hm⟩: ∃m:Nat,x.blocks=(m:Int):=by grind
 have jy:x.blocks.toNat=m:=by omega
 have afP:ar (64*x.blocks)=((64*m:Nat):Int):=by rw[hm,Zc];omega
 rw[jy]at hR;rw[afP,Zb (by rw[aR,bq,bq];omega)];simp only[bu];obtain⟨im,CZ⟩: ∃im,img.take (64*m)=im:=⟨_,rfl⟩;have Vh:im.length<1000000:=by rw[<-CZ,cz];omega
 rw[CZ]at hR⊢;refine Ok.call (y9 im Vh hx s1) ?_;rintro o ⟨s2,aZ,ho⟩;have tE:=aG.trans aZ;cases UI:qy im x with
 |none=>
  rw[UI]at ho hR;simp only at ho;subst ho;refine⟨_,s2,rfl,?_⟩;simp only[Zg 3 0 none _ (.inr rfl),Zg 1 0 none _ (.inr rfl),au,aq];rw[bp,ae];exact bad s2 tE hR.symm
 |some q=>
 obtain⟨l,pg⟩:=q;rw[UI]at ho hR;obtain⟨WH,px2,rfl,zj,Dh⟩:=ho;simp only at hR;obtain⟨l1,l2,l3,l4⟩:=RW hx UI;refine⟨_,s2,rfl,?_⟩;simp only[bc,au,aq];rw[bm,af];refine Ok.call (ew l 3 WH s2 (.inl rfl) zj l2 l3 (λs hs fj=>ZjQ (l1 s hs) fj) (by omega)) ?_;rintro o ⟨s3,cq,ho⟩;have FG:=tE.trans cq;have pU:=λs3=>Zqp n im x.dir s3 Vh (by omega)
 cases hFr:uC l x with
 |none=>
  rw[hFr]at ho hR;simp only at ho;subst ho;refine⟨_,s3,rfl,?_⟩;simp only[Zg 1 0 none _ (.inr rfl),au,aq];refine Ok.call (pU s3) ?_;rintro o ⟨s4,fC,ho⟩;cases Fb:uX im x.dir with
  |none=>
   rw[Fb]at ho;simp only at ho;subst ho;refine⟨_,s4,rfl,?_⟩;simp only[Zg 14 0 none _ (.inr rfl),Zg 1 0 none _ (.inr rfl),au,aq];rw[Za,bp,ae];simp only[au,aq];rw[ae];exact bad s4 (FG.trans fC) hR.symm
  |some q=>
   obtain⟨qs,bs⟩:=q;rw[Fb]at ho;obtain⟨z,p,z2,q,rfl,hz,gD,_⟩:=ho;refine⟨_,s4,rfl,?_⟩;simp only[Zg 14 z p _ hz,Zg 1 z2 q _ gD,au,aq];rw[Za,bp,ae];simp only[au,aq];rw[ae];exact bad s4 (FG.trans fC) hR.symm
 |some fr=>
 rw[hFr]at ho hR;obtain⟨zf,pf,rfl,hzf,oL⟩:=ho;simp only at hR;refine⟨_,s3,rfl,?_⟩;simp only[Zg 1 zf pf _ hzf,au,aq];refine Ok.call (pU s3) ?_;rintro o ⟨s4,fC,ho⟩;have FH:=FG.trans fC;cases Fb:uX im x.dir with
 |none=>
  rw[Fb]at ho hR;simp only at ho;subst ho;refine⟨_,s4,rfl,?_⟩;simp only[Zg 14 0 none _ (.inr rfl),Zg 1 0 none _ (.inr rfl),au,aq];rw[Za,bm,af];simp only[au,aq];rw[bp,ae];exact bad s4 FH hR.symm
 |some q=>
 obtain⟨qs,bs⟩:=q;rw[Fb]at ho hR;obtain⟨z6,px6,z7,px7,rfl,hz6,hz7,hq6,hq7,uE,ahC,ahi⟩:=ho;simp only at hR;refine⟨_,s4,rfl,?_⟩;simp only[Zg 14 z6 px6 _ hz6,Zg 1 z7 px7 _ hz7,au,aq];rw[Za,bm,af];simp only[au,aq];rw[af];have hL:=zj.mono (cq.trans fC);have hPg:=Dh.mono (cq.trans fC);have hFs:=oL.mono fC;have Mb: ∀s',aD s4 s'->R=none->Ok (tZ st R) ((cu st.length [.agg [.int .i64 0,.int .i64 0,.int .i64 0,.slice 0 none 0,.slice 0 none 0,.slice 0 none 0],.slice 0 none 0,.bool false]:M ah) s'):=λs' hp hn=>bad s' (FH.trans hp) hn
 rw[Zy];obtain⟨s5,hs5⟩: ∃s5,s4++[some (⟨false,[]⟩:bT)]=s5:=⟨_,rfl⟩;have ji:aD s4 s5:=by rw[<-hs5];exact .new _ _
 rw[hs5];have ae7:ba s4 s5 (some (s4.length,0)) []:=⟨ji,(by grind)⟩;have r2: ∀K:ah->M ah,da px2 (pg.length*1) K s5=K (ints pg) s5:=λK=>by
  have:=iD (hPg.mono ji) K;rwa [Zw,<-cP pg.length]at this
 rw[r2];obtain⟨pa1,s6,lS,qI,vK,tA⟩:=ae7.tm (β:=ah) (sz:=1) (n:=0) (m:=pg.length) (lim:=8796093022208) (ds:=ints pg) (by omega) rfl (by rw[Zw,cP]) (by omega);rw[tA];rw[gU]at lS;have r7: ∀K:ah->M ah,da px7 (bs.length*1) K s6=K (ints bs) s6:=λK=>by
  have:=iD (hq7.mono lS.1) K;rwa [Zw,<-cP bs.length]at this
 rw[r7];obtain⟨pa,s7,Iz,hf7,hb7,he7⟩:=lS.tm (β:=ah) (sz:=1) (n:=0+pg.length) (m:=bs.length) (lim:=8796093022208) (ds:=ints bs) (by omega) (by rw[Zw];omega) (by rw[Zw,cP]) (by omega);rw[he7];rw[<-K9]at Iz;have vJ:(pg++bs).length=0+pg.length+bs.length:=by rw[bz];omega
 rw[<-vJ];obtain⟨Az,XO⟩: ∃Az,pg++bs=Az:=⟨_,rfl⟩;have ahg:Az.length<=300:=by rw[<-XO,bz];omega
 rw[XO]at Iz hR⊢;refine Ok.join λaS mw=>?_
 have Dq: ∀(t:St) (j:Nat) (s:bA),Sl t WH (bR l)->l[j]? =some s->∃i o,WH=some (i,o)/\(∀K:DV->M ah,bG i (j*3+o) K t=K (.bool s.live) t)/\(∀K:DV->M ah,bG i (j*3+o+1) K t=K (.int .i64 s.gen) t)/\∀K:ah->M ah,bS i (j*3+o) 3 K t=K (ez s) t:=λt j s ht hj=>by
  have tC:=(dB.1 hj).1;obtain⟨i,o,rfl⟩:=ht.cD (by rw[Zz];omega);refine⟨i,o,rfl,λK=>?_,λK=>?_,λK=>?_⟩
  .have:=ht.get (β:=ah) (by rw[GY hj 0];rfl) K
   exact this
  .have:=ht.get (β:=ah) (by rw[GY hj 1];rfl) K
   rw[show j*3+o+1=j*3+1+o by omega];exact this
  .rw[ht.xy (k:=j*3) (n:=3) (by rw[Zz];omega),RY hj]
 refine Zj _ (λc y t=>∃(i Xj N2:Nat) (wo:ai),y=[.agg [.int .i64 x.blocks,.int .i64 x.cO,.int .i64 x.g,.slice Xj none 0,.slice N2 wo i,.slice 1 pf fr.length],.int .i64 ((mE (l.take i):Nat):Int),.int .i64 (i:Int)]/\(N2=1\/wo=none)/\i<=l.length/\l.length-i<=c/\ba s4 t wo (ints ((l.take i).map (·.gen)))/\ba s4 t pa (ints Az)/\(∀b∈aM wo,b∉aM pa)) ?_ l.length n _ _ ⟨0,0,0,none,by rw[hm];rfl,.inr rfl,cn _,by omega,.nil Iz.1,Iz,λb hb=>by cases hb⟩ (by omega);rintro c y t ⟨i,Xj,N2,wo,rfl,afV,hi,MB,yZ,lT,ME⟩ BE YF;rw[dt];simp only[av,Zg 2 Xj none _ (.inr rfl),Zg 1 N2 wo _ afV,bc,aq];by_cases ax:i<l.length
 .have cZ:l[i]? =some l[i]:=bU ax
  have fJ:l.take (i+1)=l.take i++[l[i]]:=kS ax;generalize l[i]=s at cZ fJ;obtain⟨pi,po,e1,zs,ld1,_⟩:=Dq t i s (hL.mono lT.1) cZ;have lR:(ints ((l.take i).map (·.gen))).length=i*1:=by rw[Zw,nY,cz];omega
  rw[aw (by omega),ae,e1,aX,Zb (Zi ax)];simp only[bu];rw[ld1];simp only[aY];have ke:aD t (t++[some ⟨false,[.int .i64 s.gen]⟩]):= .new _ _;rw[Zy,kC (f:=false) (all:=[.int .i64 s.gen]) (by simp) (by simp),dj,dq (by simp)];obtain⟨pg6,u6,Vt,aej,ad5,aeg⟩:=(yZ.mono ke).tm (β:=ah) (sz:=1) (n:=i) (m:=1) (lim:=8796093022208) (ds:=[.int .i64 s.gen]) (by omega) lR rfl (by omega);rw[aeg];have aeV:ba s4 u6 pa (ints Az):=(lT.mono ke).xx aej (λb hb cV=>ME b cV hb) Vt.1;obtain⟨pi2,po2,e2,af1,_,_⟩:=Dq u6 i s (hL.mono Vt.1) cZ;rw[e1]at e2;cases e2;rw[aX,Zb (Zi ax),af1];simp only[sP];have Fw:=Zq9 (l.take i);rw[cz]at Fw;have dW: ∀lv:Int,lv=((mE (l.take (i+1)):Nat):Int)->Ok (tZ st R) (BE [.agg [.int .i64 x.blocks,.int .i64 x.cO,.int .i64 x.g,.slice 2 none 0,.slice 1 pg6 (i+1),.slice 1 pf fr.length],.int .i64 lv,.int .i64 (ar ((i:Int)+1))] u6):=λlv fj=>by
   rw[Zc,fj];have halt:=lT.oS;refine YF (l.length-(i+1)) _ _ (by omega) ⟨i+1,2,1,pg6,rfl,.inl rfl,by omega,aL _,?_,aeV,λb hb cV=>?_⟩
   .rw[fJ,fg,show(List.map (·.gen) [s])=[s.gen]from rfl,KW]
    exact Vt
   .rcases ad5 b hb with h1|h1
    .exact ME b h1 cV
    .have:=halt b cV
     have:=ke.len;omega
  have C5:mE (l.take (i+1))=mE (l.take i)+(bif s.live then 1 else 0):=by rw[fJ,Zt8]
  rw[Za];cases fj:s.live with
  |true=>
   rw[fj,ae]at C5;rw[ae];simp only[av,aq];exact dW _ (by rw[Zc,C5];rfl)
  |false=>
   rw[fj,af,fT]at C5;rw[af];simp only[av,aq];exact dW _ (by rw[C5];rfl)
 rw[aB (by omega),af,mw];rw[dq (by omega)]at yZ⊢;have jL:i=l.length:=by omega
 subst jL;clear mw aS BE YF;show Ok (tZ st R) (bn [DV.agg _,DV.int .i64 _] _ t);rw[dt];simp only[av,bc,Zg 2 2 none _ (.inr rfl),aq];refine Ok.join λbC Bf=>?_
 have Fw:=Zq9 l;obtain⟨gs,xF⟩: ∃gs,l.map (·.gen)=gs:=⟨_,rfl⟩;have aet:gs.length=l.length:=by rw[<-xF,nY]
 rw[xF]at yZ hR;rw[<-aet];have afi:aD s4 t:=lT.1;refine Zj _ (λc y u=>∃(i za zb zc zh:Nat) (pa ph:ai) (all:ak) (hs:List dr) (hd:ah) (lv:Int),y=[.agg (zz za zb zc),.slice 1 pa all.length,.agg [.int .i64 x.blocks,.int .i64 x.cO,.int .i64 x.g,.slice zh ph hs.length,.slice 1 wo gs.length,.slice 1 pf fr.length],.int .i64 lv,.int .i64 (i:Int)]/\(zh=2\/ph=none)/\i<=qs.length/\qs.length-i<=c/\ba s4 u pa (ints all)/\ba s4 u ph hd/\hd.length=hs.length*2/\qd u (aM pa++aM ph) hd hs/\ba s4 u wo (ints gs)/\(∀b∈aM pa,b∉aM ph)/\(∀b∈aM wo,b∉aM pa/\b∉aM ph)/\ij im x.used l qs [] Az (mE l)=ij im x.used l (qs.drop i) hs all lv/\hs.length=i/\all.length<=300+4096*i/\(-4096*(i:Int)<=lv/\lv<=1792)) ?_ qs.length n _ _ ⟨0,0,0,0,2,pa,none,Az,[],[],((mE l:Nat):Int),rfl,.inr rfl,cn _,by omega,lT,.nil afi,rfl,rfl,yZ,λb hb cV=>(by cases cV),λb hb=>⟨ME b hb,λcV=>by cases cV⟩,by rw[dj],rfl,by omega,by omega⟩ (by omega);clear ME lT yZ Iz he7;rintro c2 y2 u ⟨i,za,zb,zc,zh,pa,ph,all,hs,hd,lv,rfl,hzh,hi,MB,lT,Vw,Ba,hho,yZ,tz,jh,zi,hhi,ahf,fj⟩ dA kh;rw[dt];unfold zz;simp only[av,Zg 2 za none _ (.inr rfl),Zg 1 zb none _ (.inr rfl),Zg 1 zc none _ (.inr rfl),bc,aq];rw[dt];simp only[av,Zg 2 zh ph _ hzh,bc,aq];by_cases ax:i<qs.length
 .have cZ:qs[i]? =some qs[i]:=bU ax
  have fH:qs.drop i=qs[i]::qs.drop (i+1):=iI ax;have M9:=uE _ (jG ax);generalize qs[i]=q at cZ fH M9;have hQu:=hq6.mono lT.1;obtain⟨i7,o7,rfl⟩:=hQu.cD (by rw[Hm uE];omega);rw[fH]at zi;rw[aw (by omega),ae];refine Ok.join λgM aeB=>?_
  rw[aX,Zb (Zi ax)];simp only[bu];rw[show i*14+o7+2=i*14+2+o7 by omega,hQu.xy (k:=i*14+2) (n:=12) (by rw[Hm uE];omega),Zvt uE cZ,bF (by rw[Zw];exact M9.1)];refine Ok.call (ZnL n im q.df u Vh M9.1 (by omega)) ?_;rintro o ⟨u1,IF,ho⟩;have MY:=lT.mono IF;have dW:ij im x.used l (q::qs.drop (i+1)) hs all lv=(match ui im q.df with
   |none=>none
   |some (es,ns)=>bif iT x.used l es ns then ij im x.used l (qs.drop (i+1)) (hs++[⟨q.name,Z2 es⟩]) (all++ns) (lv-es.length)else none):=rfl
  have fail: ∀u',aD s4 u'->ij im x.used l (q::qs.drop (i+1)) hs all lv=none->Ok (tZ st R) ((cu st.length [.agg [.int .i64 0,.int .i64 0,.int .i64 0,.slice 0 none 0,.slice 0 none 0,.slice 0 none 0],.slice 0 none 0,.bool false]:M ah) u'):=λu' hp hf=>Mb u' hp (by rw[zi,hf]at hR;exact hR.symm)
  cases Uw:ui im q.df with
  |none=>
   rw[Uw]at ho dW;simp only at ho;subst ho;refine⟨_,u1,rfl,?_⟩;simp only[Zg 4 0 none _ (.inr rfl),Zg 1 0 none _ (.inr rfl),au,aq];rw[bp,ae];exact fail u1 MY.1 dW
  |some qq=>
  obtain⟨es,ns⟩:=qq;rw[Uw]at ho dW;obtain⟨p68,p69,rfl,hE,hN,hNn,hEn⟩:=ho;simp only at dW;refine⟨_,u1,rfl,?_⟩;simp only[bc,au,aq];rw[bm,af];obtain⟨fo1,fo2,fo3⟩:=Zuc Uw M9.1;have hL1:=hL.mono MY.1;refine Ok.join λgN Yi=>?_
  refine Zj _ (λc y v=>∃(k za zb zc:Nat),y=[.agg (zz za zb zc),.int .i64 (k:Int)]/\k<=es.length/\es.length-k<=c/\v=u1/\iT x.used l es ns=iT x.used l (es.drop k) (ns.drop k)) ?_ es.length n _ _ ⟨0,2,1,1,rfl,cn _,by omega,rfl,by rw[dj,dj]⟩ (by omega);rintro c3 y3 v ⟨k,za,zb,zc,rfl,hk,oI,rfl,oK⟩ uY Na;rw[dt];unfold zz;simp only[av,Zg 2 za none _ (.inr rfl),Zg 1 zb none _ (.inr rfl),Zg 1 zc none _ (.inr rfl),aq];by_cases gA:k<es.length
  .have tB:es[k]? =some es[k]:=bU gA
   have hem:=fo1 _ (jG gA);generalize es[k]=e at tB hem;have qK:ns[k]? =some (ns.getD k 0):=by
    rw[bU (by omega),dX,bU (by omega)];rfl
   have Yc:(ints ns)[k]? =some (.int .i64 (ns.getD k 0)):=yu;generalize ns.getD k 0=w at qK Yc;have MI:=ZuK x.used l tB qK;rw[MI]at oK;obtain⟨i10,o10,e68⟩:=hE.cD (by rw[Zr];omega);obtain⟨i12,o12,e69⟩:=hN.cD (by rw[Zw];omega);rw[e68]at hE;rw[e69]at hN;rw[aw (by omega),ae,e68,aX,Zb (Zi gA)];simp only[bu];rw[hE.xy (k:=k*4) (n:=2) (by rw[Zr];omega),Zwe tB];simp only[av,aq];rw[Za];have JC:jv x.used l e w=false->Ok (tZ st R) ((cu st.length [.agg [.int .i64 0,.int .i64 0,.int .i64 0,.slice 0 none 0,.slice 0 none 0,.slice 0 none 0],.slice 0 none 0,.bool false]:M ah) v):=λhb=>by
    rw[hb,af]at oK;rw[oK,af]at dW;exact fail v MY.1 dW
   by_cases Ng:e.slot>=x.used
   .rw[aw Ng,ae]
    simp only[au,aq];rw[ae];exact JC (by unfold jv;rw[aw Ng];rfl)
   .obtain⟨sl,dG⟩: ∃sl:Nat,e.slot=(sl:Int):=⟨e.slot.toNat,by omega⟩
    have afE:sl<l.length:=by omega
    have Ve:l[sl]? =some l[sl]:=bU afE;generalize l[sl]=s at Ve;obtain⟨pi,po,e1,_,_,ldc⟩:=Dq v sl s hL1 Ve;have sd:jv x.used l e w=((s.live==true)&&((s.gen==e.gen)&&((s.block==w)&&true))):=by
     unfold jv;rw[aB Ng,dG,bu,Ve];rfl
    rw[aB Ng,af,e1,aX,dG,Zb (Zi)];simp only[bu];rw[ldc];unfold ez;simp only[au,av,aq];rw[e69,aX,Zb (Zi (show k<ns.length by omega)),hN.dL Yc];simp only[aY,au,aq];rw[<-sd];cases X3:jv x.used l e w with
    |false=>
     rw[bp,ae];exact JC X3
    |true=>
     rw[X3,ae]at oK;rw[bm,af,Zc];exact Na (es.length-(k+1)) _ _ (by omega) ⟨k+1,2,1,1,rfl,by omega,aL _,rfl,oK⟩
  rw[aB (by omega),af,Yi];rw[kz (by omega)]at oK;have aek:iT x.used l es ns=true:=oK;rw[aek,ae]at dW;clear Na uY Yi gN oK;show Ok (tZ st R) (bn [DV.agg _] _ v);rw[dt];simp only[av,bc,aq];have r9: ∀K:ah->M ah,da p69 (ns.length*1) K v=K (ints ns) v:=λK=>by
   have:=iD hN K;rwa [Zw,<-cP ns.length]at this
  rw[r9];have afb:=lT.oS;have VE:=Vw.oS;have YB:=yZ.oS;have huv:=IF.len;obtain⟨Jk,u2,c8,nK,cV,uI⟩:=MY.tm (β:=ah) (sz:=1) (n:=all.length) (m:=ns.length) (lim:=8796093022208) (ds:=ints ns) (by omega) (by rw[Zw,cP]) (by rw[Zw,cP]) (by omega);rw[uI];have ahI:=nK.1;have hQ2:=hq6.mono c8.1;have mA:(tI qs)[i*14]? =some (.str q.name):=by
   have:=Lz uE cZ 0 (by omega);rw[fT]at this;rw[this];rfl
  rw[aX,Zb (Zi ax)];rw[hQ2.get mA];simp only[wJ];have hE2:Sl u2 p68 (bM es):=hE.fx nK (yD λb hb cV=>by have:=hEn b hb;have:=afb b cV;omega);refine Ok.mn (Zny n es 4 p68 u2 (.inl rfl) hE2 (by omega) (by omega)) ?_;rintro _ ⟨ya,u3,rfl,FJ,CO,hSn⟩;refine⟨_,u3,rfl,FJ,?_⟩;simp only[bc,aq];have ke:aD u3 (u3++[some ⟨false,jw ⟨q.name,Z2 es⟩ 4 ya⟩]):= .new _ _;have hhz:([.str q.name,.slice 4 ya (Z2 es).length]:ah)=jw ⟨q.name,Z2 es⟩ 4 ya:=rfl;rw[hhz,Zy,kC (f:=false) (all:=jw ⟨q.name,Z2 es⟩ 4 ya) (by simp) (by show 0+2<=2;omega),dj,dq (show(jw _ _ _).length<=2 from aL _)];have YD:aD s4 u2:=c8.1;have aeY:ba s4 (u3++[some ⟨false,jw ⟨q.name,Z2 es⟩ 4 ya⟩]) ph hd:=(((Vw.mono IF).xx nK (λb hb cV=>tz b cV hb) YD).mono FJ).mono ke;have aeX:ba s4 (u3++[some ⟨false,jw ⟨q.name,Z2 es⟩ 4 ya⟩]) wo (ints gs):=(((yZ.mono IF).xx nK (λb hb cV=>(jh b hb).1 cV) YD).mono FJ).mono ke;obtain⟨ph5,u5,nO,mu,CP,AW⟩:=aeY.tm (β:=ah) (sz:=2) (n:=hs.length) (m:=1) (lim:=1759218604441) (ds:=jw ⟨q.name,Z2 es⟩ 4 ya) (by omega) Ba rfl (by omega);rw[AW,aeB];have ahF:=FJ.len;have ahG:=ke.len;have YA:=c8.oS;have hSl:=CO.oS;have hFL:Fx (aM pa++aM ph) u u5:=(Fx.pre _ IF).trans ((nK.mono λb hb=>List.mem_append_left _ hb).trans ((Fx.pre _ (FJ.trans ke)).trans (mu.mono λb hb=>List.mem_append_right _ hb)));have X0: ∀b∈aM Jk,b∉aM ph:=λb hb nI=>by
   rcases cV b hb with h1|h1
   .exact tz b h1 nI
   .have:=VE b nI;omega
  have aeU:ba s4 u5 Jk (ints all++ints ns):=((c8.mono FJ).mono ke).xx mu X0 nO.1;have aev:=hho.fx (L':=aM Jk++aM ph5) hFL λb hb=>by
   rcases fE.1 hb with hb|hb
   .rcases cV b hb with h1|h1
    .exact .inl (List.mem_append_left _ h1)
    omega
   .rcases CP b hb with h1|h1
    .exact .inl (List.mem_append_right _ h1)
    omega
  have Fe:Sl u5 ya (bM (Z2 es)):=(CO.mono ke).fx mu (yD λb hb nI=>by have:=hSn b hb;have:=VE b nI;omega);have aew:=aev.push (x:=⟨q.name,Z2 es⟩) (z:=4) (p:=ya) (.inl rfl) Fe (yD λb hb nI=>by
   have h1:=hSn b hb;have h2:=hSl b hb;rcases fE.1 nI with nI|nI
   .have:=YA b nI;omega
   .rcases CP b nI with h3|h3
    .have:=VE b h3;omega
    .omega)
  show Ok (tZ st R) (bn [DV.agg _,DV.slice 1 Jk _,DV.agg _,DV.int .i64 _] _ u5);rw[dt];simp only[av,bc,aq];rw[dt];simp only[av,bc,aq];rw[Zc (x:=lv-(es.length:Int)),Zc];refine kh (qs.length-(i+1)) _ _ (by omega) ⟨i+1,2,1,1,2,Jk,ph5,all++ns,hs++[⟨q.name,Z2 es⟩],hd++jw ⟨q.name,Z2 es⟩ 4 ya,lv-es.length,?_,.inl rfl,by omega,aL _,by rw[K9];exact aeU,nO,?_,aew,aeX.xx mu (λb hb nI=>(jh b hb).2 nI) nO.1,λb hb nI=>?_,λb hb=>⟨λnI=>?_,λnI=>?_⟩,?_,?_,?_,by omega⟩
  .rw[bz,bz,iw]
   rfl
  .rw[bz,bz,iw,Ba]
   show _+2=_;omega
  .rcases CP b nI with h1|h1
   .exact X0 b hb h1
   .have:=YA b hb;omega
  .rcases cV b nI with h1|h1
   .exact(jh b hb).1 h1
   .have:=YB b hb;omega
  .rcases CP b nI with h1|h1
   .exact(jh b hb).2 h1
   .have:=YB b hb;omega
  .rw[zi,dW]
  .rw[bz,iw,hhi]
  .rw[bz];omega
 rw[aB (by omega),af,Bf];rw[kz (by omega)]at zi;have afR:ij im x.used l qs [] Az (mE l)=some (hs,all,lv):=zi;rw[afR]at hR;simp only at hR;clear kh dA Bf bC zi;show Ok (tZ st R) (bn [DV.agg _,DV.slice 1 pa _,DV.agg _,DV.int .i64 _] _ u);rw[dt];simp only[av,bc,aq];rw[dt];simp only[av,bc,aq];rw[Zy];obtain⟨u9,VZ⟩: ∃u9,u++[some (⟨false,[.int .i64 0,.int .i64 1]⟩:bT)]=u9:=⟨_,rfl⟩;have VI:aD u u9:=by rw[<-VZ];exact .new _ _
 have hr9:Sl u9 (some (u.length,0)) (ints [0,1]):=⟨false,[.int .i64 0,.int .i64 1],by rw[<-VZ];simp,by simp[ints],by simp[ints]⟩;rw[VZ];refine Ok.join λcd Bg=>?_
 refine Zj _ (λc y v=>∃(k za zb zc zr:Nat) (pr:ai) (r:ak),y=[.agg (zz za zb zc),.slice zr pr r.length,.int .i64 (k:Int)]/\(zr=1\/pr=none)/\k<=all.length/\all.length-k<=c/\aD u9 v/\Sl v pr (ints r)/\kZ r/\r.length<=k+2/\nF x.blocks all [0,1]=nF x.blocks (all.drop k) r) ?_ all.length n _ _ ⟨0,2,1,1,1,some (u.length,0),[0,1],rfl,.inl rfl,cn _,by omega,.refl _,hr9,(by unfold kZ;simp),aL _,by rw[dj]⟩ (by omega);rintro c4 y4 v ⟨k,za2,zb2,zc2,zr,pr,r,rfl,I4,hk,oI,uS,De,IL,Nb,FL⟩ aV afr;rw[dt];unfold zz;simp only[av,Zg 2 za2 none _ (.inr rfl),Zg 1 zb2 none _ (.inr rfl),Zg 1 zc2 none _ (.inr rfl),Zg 1 zr pr _ I4,aq];have IG:aD s4 v:=lT.1.trans (VI.trans uS);have AQ:=lT.sl.mono (VI.trans uS);by_cases gA:k<all.length
 .have fH:=Hy gA
  obtain⟨w,hw⟩: ∃w,all.getD k 0=w:=⟨_,rfl⟩;rw[hw]at fH;have qK:(ints all)[k]? =some (.int .i64 w):=by rw[<-hw];exact yu gA
  obtain⟨i3,o3,e3⟩:=AQ.cD (by rw[Zw];omega);rw[e3]at AQ;rw[fH]at FL;have dW:nF x.blocks (w::all.drop (k+1)) r=bif decide (w<2)then none else(bif decide (w∈r)then none else nF x.blocks (all.drop (k+1)) (xQ x.blocks r w)):=rfl;have fail:nF x.blocks (w::all.drop (k+1)) r=none->Ok (tZ st R) ((cu st.length [.agg [.int .i64 0,.int .i64 0,.int .i64 0,.slice 0 none 0,.slice 0 none 0,.slice 0 none 0],.slice 0 none 0,.bool false]:M ah) v):=λhf=>Mb v IG (by rw[FL,hf]at hR;exact hR.symm)
  rw[aw (by omega),ae,e3,aX,Zb (Zi gA)];simp only[bu];rw[AQ.dL qK];simp only[aY];rw[Za];by_cases fP:w<2
  .rw[aw fP,ae]at dW
   rw[aw fP,ae];simp only[au,aq];rw[ae];exact fail dW
  .rw[aB fP,af]at dW
   rw[aB fP,af,aX,Zb (Zi gA),AQ.dL qK];simp only[aY];refine Ok.call (B2 n 1 r w pr v (.inl rfl) De) ?_;rintro _ rfl;refine⟨_,v,rfl,?_⟩;simp only[au,aq];cases hwr:decide (w∈r)with
   |true=>
    rw[hwr,ae]at dW;rw[ae];exact fail dW
   |false=>
    rw[hwr,af]at dW;rw[af,aX,Zb (Zi gA),AQ.dL qK];simp only[aY];refine Ok.call (ZlD n r 1 pr x.blocks w v (.inl rfl) De IL) ?_;rintro _ ⟨p2,r2,v2,rfl,afk,afz,jM,gK⟩;refine⟨_,v2,rfl,?_⟩;simp only[bc,aq];obtain⟨c1,c2⟩:=Lx (m:=x.blocks) (a:=w) IL;have afo:r2=xQ x.blocks r w:=GZ jM c1 λb=>by rw[gK,c2]
    have afp:r2.length<=(w::r).length:=Cf jM.nodup λb hb=>by
     rcases(gK b).1 hb with h1|h1
     .exact rp _ h1
     .rw[h1.1];exact oa
    rw[cH]at afp;rw[Zc];exact afr (all.length-(k+1)) _ _ (by omega) ⟨k+1,2,1,1,1,p2,r2,rfl,.inl rfl,by omega,aL _,uS.trans afk,afz,jM,by omega,by rw[FL,dW,afo]⟩
 rw[aB (by omega),af,Bg];rw[kz (by omega)]at FL;have afs:nF x.blocks all [0,1]=some r:=FL;rw[afs]at hR;simp only at hR;show Ok (tZ st R) (bn [DV.agg _,DV.slice 1 pr _] _ v);rw[dt];simp only[av,bc,aq];rw[Za,Zc (x:=((all.length:Nat):Int)+2)];have afu:(((r.length:Nat):Int)==((all.length:Nat):Int)+2)=decide (r.length=all.length+2):=nE r.length (all.length+2) _;cases Yl:(lv==0)with
 |false=>
  rw[Yl,af]at hR;rw[bp,ae];simp only[au,aq];rw[ae];exact Mb v IG hR.symm
 |true=>
  rw[Yl,ae]at hR;rw[bm,af,afu];simp only[au,aq];cases kG:decide (r.length=all.length+2)with
  |false=>
   rw[kG,af]at hR;rw[bp,ae];exact Mb v IG hR.symm
  |true=>
   rw[kG,ae]at hR;rw[bm,af,Zs];refine .mk ⟨_,Zu (FH.trans IG),?_⟩;rw[<-hR];have VJ:=VI.trans uS;have hhh:=hho.aU.mono VJ;refine⟨2,ph,wo,pf,pr,rfl,.inl rfl,⟨⟨hd,(Vw.sl.mono VJ).fN _,?_⟩,(yZ.sl.mono VJ).fN _,(hFs.mono IG).fN _⟩,De.fN _⟩;exact ZpU _ hhh
end Go.Gv.F
