/- Numbers and blocks, read (the document's). -/
import Derived.Test.YtegglibipjjblaaGreatDoorGvZMg
set_option linter.all false
namespace Go.Gv.F
open Go.Gv
variable {β:Type}
variable {Bd:Zh} [h:HA Bd]
def Zpt (n:Nat) (s:aj) (st:St) (hl:s.length<=8) (hn:s.length+3<=n):Ok (λo=>o=(.val [.int .u64 ((ez s:Nat):Int)],st)) (run Bd n 310 [.str s] st):=by
 obtain⟨n,rfl⟩: ∃k,n=k+1:=⟨n-1,by omega⟩;rw[Ze,h.afZ];unfold QX jJ BP zT kZ ZC;simp only[bR,aq];refine Ok.join λaz nA=>?_
 have key: ∀i,i<=s.length->ez (s.drop i)<256^(s.length-i):=λi hi=>by
  have:=F4 (s.drop i);rwa [fa]at this
 refine Zi _ (λq y t=>∃i:Nat,y=[.int .u64 ((ez (s.drop i):Nat):Int),.int .i64 ((i:Int)-1)]/\i<=s.length/\i<=q/\t=st) ?_ s.length n _ _ ⟨s.length,by rw[List.drop_length,Zc];rfl,aQ _,aQ _,rfl⟩ (by omega);rintro q y t ⟨i,rfl,hi,hq,rfl⟩ rec aN;simp only[av,aq];by_cases h0:i=0
 .subst h0
  rw[aF (by omega),af,nA];simp only[av,aq,Zd];exact .mk rfl
 .rw[ax (show(i:Int)-1>=0 by omega),ae,Za,ax (show(i:Int)-1<8 by omega),ae]
  obtain⟨j,rfl⟩: ∃j,i=j+1:=⟨i-1,by omega⟩;have hj:j<s.length:=by omega
  rw[show((j+1:Nat):Int)-1=((j:Nat):Int) by omega,Zb (Zj hj)];simp only[av,aq];have hd:s.drop j=s[j]::s.drop (j+1):=iV hj;have aw:=key (j+1) (by omega);have hp:256^(s.length-(j+1))<=256^7:=nT (by decide) (by omega);have h7:(256:Nat)^7=72057594037927936:=by decide
  have hb:ZT s (j:Int)=(s[j].toNat:Int):=by
   unfold ZT;rw[bp,dW,cq hj];rfl
  have hsj:=s[j].toNat_lt;rw[hb,IntWalk.u64_in (((ez (s.drop (j+1)):Nat):Int)*256) (by omega),IntWalk.u64_in (s[j].toNat:Int) (by omega),IntWalk.u64_in _ (by omega),Zc];refine aN j _ _ (by omega) ⟨j,?_,by omega,aQ _,rfl⟩;rw[hd];show _=[DV.int .u64 ((s[j].toNat+256*ez (s.drop (j+1)):Nat):Int),_];rw[show((ez (s.drop (j+1)):Nat):Int)*256+(s[j].toNat:Int)=((s[j].toNat+256*ez (s.drop (j+1)):Nat):Int) by omega]
def xB (n:Nat) (s:aj) (st:St) (hl:s.length<=8) (hn:12<=n:=by omega):run Bd n 292 [.str s] st=some (.val [.int .i64 (ar ((ez s:Nat):Int))],st):=by
 obtain⟨n,rfl⟩: ∃k,n=k+1:=⟨n-1,by omega⟩;rw[Ze,h.afM];unfold Tz jJ uP Ls Li;simp only[bR,aq];obtain⟨o,e,rfl⟩:=Zpt n s st hl (by omega);rw[Zk e];rfl
variable {m top w:Int} {es:List bh} {l:List bw} {d i j k k' lim n sz t t' v:Nat} {s s' s0:St} {cs ds:ah} {b' img:aj} {ns pg r:ak} {T:al} {e:bh}
def zQ (b:aj) {a:Nat} :ar ((ez ((b.take (a+k)).drop a):Nat):Int)=bN b a k:=by
 simp[bN,rd,C5]
def zU {b:aj} {a:Nat} (hk:k<=8:=by omega):((b.take (a+k)).drop a).length<=8:=by
 rw[fa,cX];omega
def Zvl {l:aj} (qX:l.length=64) (h4:l.getD 4 0≠0):(iS ((l.getD 4 0).toNat:Nat) ((l.getD 5 0).toNat:Nat) (l.drop 8)==l)=tE l:=by
 rw[lC,uy];constructor
 .intro e
  have hk:0<(l.getD 4 0).toNat:=by
   rcases Bg (l.getD 4 0).toNat with h|h
   .exact absurd (HF.1 (by grind)) h4
   .exact h
  have:=MC hk (UInt8.toNat_lt _) (UInt8.toNat_lt (l.getD 5 0)) (b:=l.drop 8) (by rw[fa];omega);rw[e]at this;grind[fM]
 .intro hr
  have:fM l=some ((l.getD 4 0).toNat,(l.getD 5 0).toNat,l.drop 8):=by
   grind[fM]
  exact(sb this).1.symm
def yS (l:aj):ah:=match fM l with
 |none=>[.int .i64 0,.int .i64 0,.str [],.bool false]
 |some (k,t,b)=>[.int .i64 (k:Int),.int .i64 (t:Int),.str b,.bool true]
def Fs (n:Nat) (p:ai) (l:aj) (st:St) (hs:dc st p l) (hl:l.length=64) (hn:300<=n:=by omega):
  Ok (λo=>∃s',o=(.val (yS l),s')/\aB st s') (run Bd n 291 [.slice 1 p 64] st):=by
 obtain⟨n,rfl⟩: ∃k,n=k+1:=⟨n-1,by omega⟩;rw[Ze,h.afL];unfold Sf bV aA mP jw Lb pP;simp only[aX,aq];obtain⟨i,o,rfl⟩:=hs.cH (by omega);have g4:l[4]? =some (l.getD 4 0):=by rw[dW,cq (by omega)];rfl
 have g5:l[5]? =some (l.getD 5 0):=by rw[dW,cq (by omega)];rfl
 have hw: ∀c:UInt8,ar ((c.toNat:Nat):Int)=((c.toNat:Nat):Int):=λc=>by
  have:=c.toNat_lt;exact Zc
 have Yy: ∀(K:DV->M ah) (t:St),dc t (some (i,o)) l->bD i (4+o) K t=K (.int .u8 (l.getD 4 0).toNat) t:=λK t ht=>ht.get g4 K
 have ld5: ∀(K:DV->M ah) (t:St),dc t (some (i,o)) l->bD i (5+o) K t=K (.int .u8 (l.getD 5 0).toNat) t:=λK t ht=>ht.get g5 K
 have r8: ∀(K:ah->M ah) (t:St),dc t (some (i,o)) l->dy (cU true (some (i,o)) 8) (64-8) K t=K (bU (l.drop 8)) t:=λK t ht=>by
  have h8:=ht.cU (k:=8) (by omega);have:=iR (show Sl _ _ (bU (l.drop 8))from h8) K;rwa [Zu,fa,hl]at this
 have rl: ∀(K:ah->M ah) (t:St),dc t (some (i,o)) l->dy (some (i,o)) 64 K t=K (bU l) t:=λK t ht=>by
  have:=iR (show Sl _ _ (bU l)from ht) K;rwa [Zu,hl]at this
 have bad:tE l=false->∀s',aB st s'->Ok (λo=>∃s',o=(.val (yS l),s')/\aB st s') ((ay [.int .i64 0,.int .i64 0,.str (bs []),.bool false]:M ah) s'):=λhr s' hp=>by
  rw[Zd];refine .mk ⟨s',?_,hp⟩;grind[yS,fM]
 rw[Za,show(!(((64:Nat):Int)==64))=false from rfl,af,bd,Zb (by rfl),Yy _ _ hs];simp only[bg,au,aq];rw[Za];by_cases h4:l.getD 4 0=0
 .rw[h4,show((((0:UInt8).toNat:Nat):Int)==0)=true from rfl,ae]
  simp only[au,aq];rw[ae];refine bad ?_ st (.refl _);grind[tE]
 .have h40:((((l.getD 4 0).toNat:Nat):Int)==0)=false:=eG.2 λe=>h4 (HF.1 (by grind))
  rw[h40,af,bd,Zb (by rfl),Yy _ _ hs];simp only[bg];rw[bd,Zb (by rfl),ld5 _ _ hs];simp only[bg];rw[Zb (ax (by omega)),r8 _ _ hs,<-ll,oJ,hw,hw];refine Ok.cx (Bu n _ _ (l.drop 8) (by rw[fa];omega) st (by rw[fa];omega)) λs1 aH=>?_
  have eX:=hs.mono aH;simp only[bR,aq];rw[rl _ _ eX,<-ll,oJ,Zvl hl h4];simp only[au,aq];cases hr:tE l with
  |false=>
   rw[bn,ae];exact bad hr s1 aH
  |true=>
   rw[br,af,bd,Zb (show aR 4 64=true from rfl),Yy _ _ eX];simp only[bg];rw[bd,Zb (show aR 5 64=true from rfl),ld5 _ _ eX];simp only[bg];rw[Zb (ax (by omega)),r8 _ _ eX,<-ll,oJ,hw,hw,Zd];refine .mk ⟨s1,?_,aH⟩;unfold yS fM;rw[hr];rfl
def FQ {b:aj} (lM:0<k) (hk:k<256) (ht:t<256) (ahq:0<k') (nB:k'<256) (wV:t'<256) (h:b.length<=56) (h':b'.length<=56:=by omega):iS k t b=iS k' t' b'↔k=k'/\t=t'/\jQ b 56=jQ b' 56:=by
 constructor
 .intro e
  have h1:=MC lM hk ht h;rw[e,MC ahq nB wV h']at h1;grind
 .grind[iS,pF]
def Ih {b:aj} (h:b.length=56):jQ b 56=b:=by
 simp_all[jQ,l9]
def Ii {b:aj} (h:b.length=56) (hn:n<=56:=by omega):jQ (b.take n) 56=b↔ZE (b.drop n)=true:=by
 have hl:(b.take n).length=n:=by rw[cX];omega
 have hd:(b.drop n).length=56-n:=by rw[fa];omega
 unfold jQ;rw[hl];constructor
 .intro e
  have:b.drop n=l9 (56-n):=by
   have h1:=rQ n b;rw[<-e]at h1;grind
  rw[this];exact ZkJ _
 .intro e
  have:=T1 e;rw[hd]at this;rw[<-this,rQ]
def ZzB (h:v<18446744073709551616):eZ (ar (v:Int))=v:=by
 grind[eZ,ar,IntKind.wrap_i64]
def pW {b:aj} {a:Nat} (hk:k<=8:=by omega) (h:a+k<=b.length:=by omega):db (eZ (bN b a k)) k=(b.drop a).take k:=by
 unfold bN;have aw:=Pq b a k;have hp:256^k<=256^8:=nT (by decide) hk;have h8:(256:Nat)^8=18446744073709551616:=by decide
 rw[ZzB (by omega)];unfold rd;have hl:((b.drop a).take k).length=k:=by rw[cX,fa];omega
 have:=MS ((b.drop a).take k);rwa [hl]at this
def ZqJ (b:aj) (a m k:Nat):(b.drop a).take m++(b.drop (a+m)).take k=(b.drop a).take (m+k):=by
 rw[nb,kV]
def H4 {b:aj} {a:Nat} : ∀(n:Nat),a+2*n<=b.length->js ((List.range n).map λj=>bN b (a+2*j) 2)=(b.drop a).take (2*n)
 |0,_=>rfl
 |n+1,h=>by
  have e:js ((List.range (n+1)).map λj=>bN b (a+2*j) 2)=js ((List.range n).map λj=>bN b (a+2*j) 2)++db (eZ (bN b (a+2*n) 2)) 2:=by
   simp[js,qw,fA,Hw]
  rw[e,H4 n (by omega),pW,ZqJ,show 2*n+2=2*(n+1) by omega]
def Ztm {b:aj} (h:2*n<=b.length:=by omega):js (dU b n)=b.take (2*n):=by
 have:=H4 (b:=b) (a:=0) n (by omega);rw[dK]at this;rw[<-this];simp[dU]
def Zpx {b:aj} (t:Nat): ∀(n:Nat),8*n<=b.length->nZ (ZR b t n)=b.take (8*n)
 |0,_=>rfl
 |n+1,h=>by
  have app: ∀(l:List bw) (x:bw),nZ (l++[x])=nZ l++(db (eZ x.gen) 4++db (eZ x.block) 4):=λl x=>by
   induction l with
   |nil=>simp[nZ]
   |cons y l ih=>simp[nZ,ih]
  rw[HX,app,Zpx t n (by omega)];show _++(db (eZ (bN b (8*n) 4)) 4++db (eZ (bN b (8*n+4) 4)) 4)=_;rw[pW,pW,ZqJ b (8*n) 4 4,show 8*(n+1)=8*n+8 by omega];grind
def ZtK: ∀(l:List bw) (x:bw) (k:Nat),j8 k (l++[x])=j8 k l+(bif x.live then 2^(k+l.length)else 0)
 |[],x,k=>by simp[j8]
 |y::l,x,k=>by
  rw[nP];unfold j8;rw[ZtK l x (k+1),cO,show k+1+l.length=k+(l.length+1) by omega];omega
def Zsx (b:aj) (t:Nat): ∀n,j8 0 (ZR b t n)=t%2^n
 |0=>by simp[ZR,j8,Nat.mod_one]
 |n+1=>by
  rw[HX,ZtK,Zsx b t n,Bz,eW];show t%2^n+(bif eE t n then 2^n else 0)=_;have h:=Nat.mod_pow_succ (b:=2) (k:=n) (x:=t);rw[h];grind[eE]
def ZwH {b:aj} (h:b.length=56) (ht:t<=12):Pd (lZ b t)=b.take (24+2*t):=by
 unfold Pd lZ oS;simp only;rw[pW,pW,pW,pW,H4 t (by omega),dK];have e1:b.take 8++(b.drop 8).take 8=b.take 16:=by rw[<-nb]
 have e2:b.take 16++(b.drop 16).take 4=b.take 20:=by rw[<-nb]
 have e3:b.take 20++(b.drop 20).take 4=b.take 24:=by rw[<-nb]
 rw[e1,e2,e3,<-nb]
def Zvs {b:aj} (h:b.length=56) (ht:t<=28):db (eZ ((Z9 b t).mask:Int)) 4++js (Z9 b t).dz++(Z9 b t).name=b.take (28+t):=by
 unfold Z9 ZV;simp only;have aw:=Pq b 0 4;have e0:((rd b 0 4:Nat):Int)=bN b 0 4:=by
  unfold bN;exact(Zc (by omega) (by have:(256:Nat)^4=4294967296:=(by decide);omega)).symm
 rw[e0,pW,H4 12 (by omega),dK];have e1:b.take 4++(b.drop 4).take (2*12)=b.take 28:=by rw[<-nb]
 rw[e1,<-nb]
def ZmS (k:Int):jO k=lg k 2 3071:=by
 simp[jO,lg]
def ZvJ (x:bw):xi x=ZK x:=by
 unfold xi ZK;rw[ZmS];cases x.live with
 |true=>
  rw[ae,ae];grind[lg]
 |false=>
  rw[af,af];grind[lg]
def Zxu {l b:aj} (ho:fM l=some (3,t,b)):iM l=(bif (match uU (dU b 16)with|none=>false|some c=>c==l)then some (dU b 16)else none):=by
 obtain⟨h1,h2,h3,h4⟩:=sb ho;have hr:BC (dU b 16)=(dU b 16).all λk=>k==0||jO k:=by
  simp[BC,ZmS]
 unfold iM uU;rw[ho,<-hr];simp only;cases hrf:BC (dU b 16)with
 |false=>
  rw[af,af];simp
 |true=>
  rw[ae,ae];have key:(iS 3 0 (js (dU b 16))==l)=(decide (t=0)&&ZE (b.drop 32)):=by
   rw[Ztm,lC,uy,aY,bu]
   conv=>lhs;rhs;rw[h1]
   have:=FQ (k:=3) (t:=0) (k':=3) (t':=t) (b:=b.take (2*16)) (b':=b) (by omega) (by omega) (by omega) (by omega) (by omega) h4 (by rw[cX];omega);rw[show((3:Nat):Int)=3 from rfl,show((0:Nat):Int)=0 from rfl]at this;rw[show((3:Nat):Int)=3 from rfl,this,Ih h2,Ii h2];grind
  grind
def ZvT {l b:aj} (ho:fM l=some (2,t,b)):ZM l=(bif (match xI (ZR b t 7)with|none=>false|some c=>c==l)then some (ZR b t 7)else none):=by
 obtain⟨h1,h2,h3,h4⟩:=sb ho;have hr:(ZR b t 7).all ZK=(ZR b t 7).all xi:=by
  grind[ZvJ]
 unfold ZM xI;rw[ho];simp only;rw[hr];cases hrf:(ZR b t 7).all xi with
 |false=>
  rw[af,af];simp
 |true=>
  rw[ae,ae];have key:(iS 2 ((j8 0 (ZR b t 7):Nat):Int) (nZ (ZR b t 7))==l)=decide (t<128):=by
   rw[Zpx t 7 (by omega),Zsx,lC,uy,bu]
   conv=>lhs;rhs;rw[h1]
   have:=FQ (k:=2) (t:=t%2^7) (k':=2) (t':=t) (b:=b.take (8*7)) (b':=b) (by omega) (by omega) (by omega) (by omega) (by omega) h4 (by rw[cX];omega);rw[show((2:Nat):Int)=2 from rfl]at this;rw[show((2:Nat):Int)=2 from rfl,this,dG (show b.length<=8*7 by omega)];simp
  grind
def ZvC {l b:aj} (ho:fM l=some (1,t,b)) (ht:t<=12):iY l=(bif oR (lZ b t)&&xe (lZ b t)==l then some (lZ b t)else none):=by
 obtain⟨h1,h2,h3,h4⟩:=sb ho;have key:(xe (lZ b t)==l)=ZE (b.drop (24+2*t)):=by
  have fY:(lZ b t).kids.length=t:=Dr b t;unfold xe;rw[ZwH h2 ht,fY,lC,uy]
  conv=>lhs;rhs;rw[h1]
  have:=FQ (k:=1) (t:=t) (k':=1) (t':=t) (b:=b.take (24+2*t)) (b':=b) (by omega) (by omega) h4 (by omega) (by omega) h4 (by rw[cX];omega);rw[show((1:Nat):Int)=1 from rfl]at this;rw[show((1:Nat):Int)=1 from rfl,this,Ih h2,Ii h2];simp
 grind[iY]
def Zui {l b:aj} (ho:fM l=some (5,t,b)) (ht:t<=28):ZJ l=(bif mO (Z9 b t)&&yV (Z9 b t)==l then some (Z9 b t)else none):=by
 obtain⟨h1,h2,h3,h4⟩:=sb ho;have Ou:(Z9 b t).name.length=t:=by
  show((b.drop 28).take t).length=t;rw[cX,fa];omega
 have key:(yV (Z9 b t)==l)=ZE (b.drop (28+t)):=by
  unfold yV;rw[Zvs h2 ht,Ou,lC,uy]
  conv=>lhs;rhs;rw[h1]
  have:=FQ (k:=5) (t:=t) (k':=5) (t':=t) (b:=b.take (28+t)) (b':=b) (by omega) (by omega) h4 (by omega) (by omega) h4 (by rw[cX];omega);rw[show((5:Nat):Int)=5 from rfl]at this;rw[show((5:Nat):Int)=5 from rfl,this,Ih h2,Ii h2];simp
 unfold ZJ;rw[ho,key];simp only;cases hr:mO (Z9 b t)with
 |false=>
  rw[af,gf,af];simp
 |true=>
  have h24:t<=24:=by
   have h5:=hr;unfold mO at h5;rw[aY]at h5;have:=Zv1 h5.1;omega
  rw[ax h24];simp
def Zw1 (l:ak):Dz l=(decide (1<=l.length)&&(decide (l.length<=16)&&sv l l.length)):=by
 have key: ∀n,n<=l.length->((List.range n).all λi=>se (l.getD i 0)&& !decide (l.getD i 0∈l.take i))=sv l n:=by
  intro n;induction n with
  |zero=>intro _;rfl
  |succ n ih=>
   intro hn;rw[qw,tf,ih (by omega)];unfold sv;have hb:se (l.getD n 0)=jO (l.getD n 0):=by
    grind[se,jO]
   rw[<-hb];grind[sv]
 grind[Dz]
def Zwp {l b:aj} (ho:fM l=some (6,t,b)) (ht:t<=16):lh l=(bif (match zY (dU b t)with|none=>false|some c=>c==l)then some (dU b t)else none):=by
 obtain⟨h1,h2,h3,h4⟩:=sb ho;have key:(iS 6 ((dU b t).length:Int) (js (dU b t))==l)=ZE (b.drop (2*t)):=by
  rw[Ztm,nW,lC,uy]
  conv=>lhs;rhs;rw[h1]
  have:=FQ (k:=6) (t:=t) (k':=6) (t':=t) (b:=b.take (2*t)) (b':=b) (by omega) (by omega) h4 (by omega) (by omega) h4 (by rw[cX];omega);rw[show((6:Nat):Int)=6 from rfl]at this;rw[show((6:Nat):Int)=6 from rfl,this,Ih h2,Ii h2];simp
 unfold lh zY;rw[ho];simp only;rw[Zw1,ax ht];grind
def ZoT (n:Nat) (p:ai) (l:aj) (st:St) (hs:dc st p l) (hl:l.length=64) (hn:500<=n):
  Ok (λo=>∃s',aB st s'/\match iM l with
   |none=>o=(.val [.agg (ints (List.replicate 16 0)),.bool false],s')
   |some x=>o=(.val [.agg (ints x),.bool true],s')/\x.length=16) (run Bd n 308 [.slice 1 p 64] st):=by
 obtain⟨n,rfl⟩: ∃m,n=m+1:=⟨n-1,by omega⟩;rw[Ze,h.afX];unfold QY bV uN aA uB cP cw aZ Lb Ls Li;simp only[aX,aq];refine Ok.cv (Fs n p l st hs hl) λs1 aH=>?_
 have eX:=hs.mono aH;obtain⟨Q,hQ⟩: ∃Q:Out ah×St->Prop,(λo=>∃s',aB st s'/\match iM l with
   |none=>o=(.val [.agg (ints (List.replicate 16 0)),.bool false],s')
   |some x=>o=(.val [.agg (ints x),.bool true],s')/\x.length=16)=Q:=⟨_,rfl⟩
 have bad: ∀s',aB st s'->iM l=none->Ok Q ((ay [.agg (List.replicate 16 (.int .i64 0)),.bool false]:M ah) s'):=λs' hp hg=>by
  rw[Zd,<-hQ];refine .mk ⟨s',hp,?_⟩;rw[hg];rfl
 rw[hQ];unfold yS;cases ho:fM l with
 |none=>
  simp only[av,bR,au,aq];rw[Za,bn,ae];simp only[au,aq];rw[ae];exact bad s1 aH (by unfold iM;rw[ho])
 |some q=>
  obtain⟨k,t,b⟩:=q;obtain⟨_,hb,_,_⟩:=sb ho;simp only[av,bR,au,aq];rw[Za,br,af,nn k 3 3 rfl];simp only[au,aq];by_cases hk:k=3
  .subst hk
   rw[ax rfl,br,af];refine Ok.join λaI jU=>?_
   refine Zi _ (λq y s=>∃i:Nat,y=[.agg (ints (dU b i)++ints (List.replicate (16-i) 0)),.int .i64 i]/\i<=16/\16-i<=q/\s=s1) ?_ 16 n _ _ ⟨0,rfl,by omega,by omega,rfl⟩ (by omega);rintro q _ s ⟨i,rfl,hi,hq,rfl⟩ rec aN;have hlen:(ints (dU b i)++ints (List.replicate (16-i) 0)).length=16:=by
    simp[ints,nW];omega
   simp only[cT,av,aq];rw[bI hlen];by_cases aw:i<16
   .have cG:ar ((i:Int)+1)=((i+1:Nat):Int):=Zc
    have jA:ar (2*(i:Int))=((2*i:Nat):Int):=Zc;have j4:ar (((2*i:Nat):Int)+2)=((2*i+2:Nat):Int):=Zc;simp only[cG,jA,j4,bp,cR];rw[ax (show(i:Int)<16 by omega),ae];rw[Zb (by rw[aY,bu,bu];omega),Zb (by rw[aY,bu,bu];omega)];rw[Zk (xB n _ s (zU)),zQ];simp only[av,aq];rw[Zb (show aR (i:Int) 16=true from Zj aw),Zb (gA (by omega))];refine aN (16-(i+1)) _ _ (by omega) ⟨i+1,?_,by omega,aQ _,rfl⟩;congr 2;rw[Mg,show List.replicate (16-i) (0:Int)=0::List.replicate (16-(i+1)) 0 by rw[show 16-i=(16-(i+1))+1 by omega];rfl];have e3:i=(ints (dU b i)).length:=by simp[ints,nW]
    have e4:=tw (ints (dU b i)) [.int .i64 0] (ints (List.replicate (16-(i+1)) 0)) [.int .i64 (bN b (2*i) 2)] rfl;rw[<-e3]at e4;show cE (ints (dU b i)++([.int .i64 0]++ints (List.replicate (16-(i+1)) 0))) i [.int .i64 (bN b (2*i) 2)]=ints (dU b i++[bN b (2*i) 2])++_;rw[e4,show ints (dU b i++[bN b (2*i) 2])=ints (dU b i)++[.int .i64 (bN b (2*i) 2)] by unfold ints;rw[fA];rfl,fI]
   .rw[aF (show ¬(i:Int)<16 by omega),af]
    have p8:i=16:=by omega
    subst p8;rw[show ints (dU b 16)++ints (List.replicate (16-16) 0)=ints (dU b 16)from gz _]at hlen⊢;subst jU;simp only[cT,aq];rw[bI hlen];refine Ok.cv (Sy n (dU b 16) (nW b 16) s) λs2 aU=>?_
    have cI:=Zxu ho;cases Cx:uU (dU b 16)with
    |none=>
     rw[Cx]at cI;show Ok Q (eQ [.str [],.bool false] _ s2);simp only[bR,au,aq];rw[Za,bn,ae];simp only[au,aq];rw[ae];exact bad s2 (aH.trans aU) cI
    |some c=>
     rw[Cx]at cI;simp only at cI;show Ok Q (eQ [.str c,.bool true] _ s2);simp only[bR,au,aq];rw[Za,br,af];have rl: ∀(K:ah->M ah),dy p 64 K s2=K (bU l) s2:=λK=>by
      have:=iR (show Sl _ _ (bU l)from eX.mono aU) K;rwa [Zu,hl]at this
     rw[rl,<-ll,oJ];simp only[au,aq];cases cN:(c==l)with
     |false=>
      rw[cN]at cI;rw[bn,ae];exact bad s2 (aH.trans aU) cI
     |true=>
      rw[cN]at cI;rw[br,af,bI hlen,Zd,<-hQ];refine .mk ⟨s2,aH.trans aU,?_⟩;rw[cI];exact⟨rfl,nW b 16⟩
  .rw[aF hk,bn,ae]
   grind[iM]
def ZqX:(bT nG:ah)=[.bool false,.int .i64 0,.int .i64 0,.bool false,.int .i64 0,.int .i64 0,.bool false,.int .i64 0,.int .i64 0,.bool false,.int .i64 0,.int .i64 0,.bool false,.int .i64 0,.int .i64 0,.bool false,.int .i64 0,.int .i64 0,.bool false,.int .i64 0,.int .i64 0]:=rfl
def ZnX (n:Nat) (p:ai) (l:aj) (st:St) (hs:dc st p l) (hl:l.length=64) (hn:500<=n):
  Ok (λo=>∃s',aB st s'/\match ZM l with
   |none=>o=(.val [.agg (bT nG),.bool false],s')
   |some x=>o=(.val [.agg (bT x),.bool true],s')/\x.length=7) (run Bd n 309 [.slice 1 p 64] st):=by
 obtain⟨n,rfl⟩: ∃m,n=m+1:=⟨n-1,by omega⟩;rw[Ze,h.afY];unfold QD bV uN aA uB cP lW aZ ZI Lb Ls rV Dn;simp only[aX,aq];rw[<-ZqX];refine Ok.cv (Fs n p l st hs hl) λs1 aH=>?_
 have eX:=hs.mono aH;obtain⟨Q,hQ⟩: ∃Q:Out ah×St->Prop,(λo=>∃s',aB st s'/\match ZM l with
   |none=>o=(.val [.agg (bT nG),.bool false],s')
   |some x=>o=(.val [.agg (bT x),.bool true],s')/\x.length=7)=Q:=⟨_,rfl⟩
 have bad: ∀s',aB st s'->ZM l=none->Ok Q ((ay [.agg (bT nG),.bool false]:M ah) s'):=λs' hp hg=>by
  rw[Zd,<-hQ];refine .mk ⟨s',hp,?_⟩;rw[hg]
 rw[hQ];unfold yS;cases ho:fM l with
 |none=>
  simp only[av,bR,au,aq];rw[Za,bn,ae];simp only[au,aq];rw[ae];exact bad s1 aH (by unfold ZM;rw[ho])
 |some q=>
  obtain⟨k,t,b⟩:=q;obtain⟨_,hb,_,ht⟩:=sb ho;simp only[av,bR,au,aq];rw[Za,br,af,nn k 2 2 rfl];simp only[au,aq];by_cases hk:k=2
  .subst hk
   rw[ax rfl,br,af];refine Ok.join λaI jU=>?_
   refine Zi _ (λq y s=>∃i:Nat,y=[.agg (bT (ZR b t i)++bT (List.replicate (7-i) gT)),.int .i64 i]/\i<=7/\7-i<=q/\s=s1) ?_ 7 n _ _ ⟨0,rfl,by omega,by omega,rfl⟩ (by omega);rintro q _ s ⟨i,rfl,hi,hq,rfl⟩ rec aN;have hlen:(bT (ZR b t i)++bT (List.replicate (7-i) gT)).length=21:=by
    rw[bB,ZB,ZB,Bz,oF];omega
   simp only[cT,av,aq];rw[bI hlen];by_cases aw:i<7
   .have cG:ar ((i:Int)+1)=((i+1:Nat):Int):=Zc
    have jA:ar (8*(i:Int))=((8*i:Nat):Int):=Zc;have j4:ar (((8*i:Nat):Int)+4)=((8*i+4:Nat):Int):=Zc;have pC:ar (((8*i:Nat):Int)+8)=((8*i+4+4:Nat):Int):=Zc;have aU:2^i<=2^6:=nT (by decide) (by omega);have hpp:=Nat.two_pow_pos i;have hw6:ar (1*2^(min i 64))=((2^i:Nat):Int):=by
     rw[nS (by omega),Int.one_mul,show((2:Int)^i)=((2^i:Nat):Int) by simp];exact Zc
    simp only[cG,jA,j4,pC,bp,hw6];have agR:((ar (((t:Nat):Int).tdiv ((2^i:Nat):Int))).tmod 2==1)=eE t i:=by
     rw[show(((t:Nat):Int).tdiv ((2^i:Nat):Int))=((t/2^i:Nat):Int)from rfl];unfold eE;have hd:t/2^i<=t:=E9 _ _;generalize t/2^i=d at hd;rw[Zc,show((d:Nat):Int).tmod 2=((d%2:Nat):Int)from rfl];exact nn _ 1 1 rfl
    rw[ax (show(i:Int)<7 by omega),ae];rw[Zb (ax (by omega)),Zb (by rw[eG.2 (by omega)];rfl),Zb (by rw[aY,bu,bu];omega),Zb (by rw[aY,bu,bu];omega)];rw[vZ (xB n _ s (zU)),zQ];simp only[av,aq];rw[Zb (by rw[aY,bu,bu];omega),Zb (by rw[aY,bu,bu];omega)];rw[vZ (xB n _ s (zU)),zQ];simp only[av,aq];rw[agR,Zb (show aR (i:Int) 7=true from Zj aw),Zb (gA (by omega))];refine aN (7-(i+1)) _ _ (by omega) ⟨i+1,?_,by omega,aQ _,rfl⟩;congr 2;have e2:List.replicate (7-i) gT=gT::List.replicate (7-(i+1)) gT:=by rw[show 7-i=(7-(i+1))+1 by omega];rfl
    have e3:i*3=(bT (ZR b t i)).length:=by rw[ZB,Bz]
    have e4:=tw (bT (ZR b t i)) (eL gT) (bT (List.replicate (7-(i+1)) gT)) (eL (wo b t i)) rfl;rw[<-e3]at e4;rw[HX,Iv,e2];show cE (bT (ZR b t i)++(eL gT++bT (List.replicate (7-(i+1)) gT))) (i*3) (eL (wo b t i))=(bT (ZR b t i)++bT [wo b t i])++_;rw[e4,fI];congr 1
   .rw[aF (show ¬(i:Int)<7 by omega),af]
    have p8:i=7:=by omega
    subst p8;rw[show bT (ZR b t 7)++bT (List.replicate (7-7) gT)=bT (ZR b t 7)from gz _]at hlen⊢;subst jU;simp only[cT,aq];rw[bI hlen];refine Ok.cv (ZlK n (ZR b t 7) (Bz b t 7) s) λs2 aU=>?_
    have cI:=ZvT ho;cases Cx:xI (ZR b t 7)with
    |none=>
     rw[Cx]at cI;show Ok Q (eQ [.str [],.bool false] _ s2);simp only[bR,au,aq];rw[Za,bn,ae];simp only[au,aq];rw[ae];exact bad s2 (aH.trans aU) cI
    |some c=>
     rw[Cx]at cI;simp only at cI;show Ok Q (eQ [.str c,.bool true] _ s2);simp only[bR,au,aq];rw[Za,br,af];have rl: ∀(K:ah->M ah),dy p 64 K s2=K (bU l) s2:=λK=>by
      have:=iR (show Sl _ _ (bU l)from eX.mono aU) K;rwa [Zu,hl]at this
     rw[rl,<-ll,oJ];simp only[au,aq];cases cN:(c==l)with
     |false=>
      rw[cN]at cI;rw[bn,ae];exact bad s2 (aH.trans aU) cI
     |true=>
      rw[cN]at cI;rw[br,af,bI hlen,Zd,<-hQ];refine .mk ⟨s2,aH.trans aU,?_⟩;rw[cI];exact⟨rfl,Bz b t 7⟩
  .rw[aF hk,bn,ae]
   grind[ZM]
def Zwc (k:Int):EE k= !jO k:=by
 grind[EE,jO]
def Zxs (x:jK):oR x=((bif (bif (bif decide (x.bJ.slot>=0)then decide (x.bJ.slot<=1791)else false)then decide (x.bJ.gen>=1)else false)then decide (x.bJ.gen<=4294967295)else false)&&decide ((x.kids.length:Int)<=12)&&x.kids.all jO):=by
 have hk:(!x.kids.any EE)=x.kids.all jO:=by
  rw[lC,lD,List.any_eq_false,vR];simp[Zwc]
 grind[oR]
def ZpD (n:Nat) (x:jK) (z:Nat) (p:ai) (st:St) (hz:z=1\/p=none) (hs:Sl st p (ints x.kids)) (hl:x.kids.length<1000) (hn:x.kids.length+10<=n):
  Ok (λo=>o=(.val [.bool (oR x)],st)) (run Bd n 319 [.agg (oA x z p)] st):=by
 obtain⟨n,rfl⟩: ∃m,n=m+2:=⟨n-2,by omega⟩;rw[Ze,h.af7];unfold RD Fm aA cP Zn bq Lb Li zD;rw[dT];unfold oA fk;simp only[nP,jG,av,Zg 1 z p _ hz,aq];refine Ok.join λaz nA=>?_
 have go: ∀c:Bool,c=(bif (bif (bif decide (x.bJ.slot>=0)then decide (x.bJ.slot<=1791)else false)then decide (x.bJ.gen>=1)else false)then decide (x.bJ.gen<=4294967295)else false)->
   Ok (λo=>o=(.val [.bool (oR x)],st)) (cS (λaV st=>
      gC st λCK st=>
      aD .i64 st λi st=>
      aL st<|
      cK (λst=>gC st λb5 st=>aL st<|
       bif b5 then
       bH p λi1 o=>
      aC (aR i x.kids.length)<|
      bD i1 (i.toNat*1+o) λd=>
      cY .i64 d λx=>
      cQ (run Bd (n+1) 251 [.int .i64 x]) λds=>
      gC ds λx1 ds=>
      aL ds<|
      aV [.bool x1,.int .i64 (ar (i+1))]
      else
       (ay [.bool CK]:M ah)) λdp=>
      bif decide (i<(x.kids.length:Int))then
       dp [.bool CK]
      else
       dp [.bool false]) (n+1) [.bool (c&&decide ((x.kids.length:Int)<=12)),.int .i64 0] st):=λc hc=>by
  rw[Zxs,<-hc];generalize (c&&decide ((x.kids.length:Int)<=12))=e;refine Zi _ (λq y t=>∃i:Nat,y=[.bool (e&&(x.kids.take i).all jO),.int .i64 (i:Int)]/\i<=x.kids.length/\x.kids.length-i<=q/\t=st) ?_ x.kids.length (n+1) _ _ (by grind) (by omega);rintro q y t ⟨i,rfl,hi,hq,rfl⟩ rec aN;simp only[au,av,aq];rw[Za];by_cases aw:i<x.kids.length
  .rw[ax (show(i:Int)<(x.kids.length:Int) by omega),ae]
   simp only[au,aq];have fZ:x.kids.take (i+1)=x.kids.take i++[x.kids[i]]:=by simp
   cases hb:(e&&(x.kids.take i).all jO)with
   |true=>
    obtain⟨i1,o1,rfl⟩:=hs.cH (by simp[ints];omega);have da:(ints x.kids)[i]? =some (.int .i64 x.kids[i]):=ZD aw;rw[ae,bd,Zb (Zj aw)];simp only[bp];rw[hs.dJ da];simp only[bg];rw[Zk (HP n _ t)];simp only[au,aq];rw[Zc];refine aN (x.kids.length-(i+1)) _ _ (by omega) ⟨i+1,?_,by omega,aQ _,rfl⟩;rw[aY]at hb;rw[fZ,tf,hb.1,hb.2];simp
   |false=>
    rw[af,Zd];refine .mk ?_;grind
  .rw[aF (show ¬(i:Int)<(x.kids.length:Int) by omega),af]
   simp only[au,aq];rw[af,dG (by omega),Zd];exact .mk rfl
 subst nA;cases h1:decide (x.bJ.slot>=0)with
 |true=>
  rw[ae];simp only[au,aq];have:=go (bif (bif decide (x.bJ.slot<=1791)then decide (x.bJ.gen>=1)else false)then decide (x.bJ.gen<=4294967295)else false) (by rw[h1];rfl);rw[Za];cases h2:decide (x.bJ.slot<=1791)with
  |true=>
   rw[h2]at this;simp only[ae,au,aq,Za]at this⊢;grind
  |false=>
   rw[h2]at this;simp only[af,au,aq,Za,gf]at this⊢;exact this
 |false=>
  rw[af];have:=go false (by rw[h1];rfl);simp only[af,au,aq,Za,gf]at this⊢;exact this
def ZsP (n:Nat) (p:ai) (l:aj) (st:St) (hs:dc st p l) (hl:l.length=64) (hn:3000<=n):
  Ok (λo=>∃s',aB st s'/\match iY l with
   |none=>o=(.val [.agg [.int .i64 0,.int .i64 0,.int .i64 0,.int .i64 0,.slice 0 none 0],.bool false],s')
   |some x=>∃q,o=(.val [.agg (oA x 1 q),.bool true],s')/\Fz s' q (ints x.kids)) (run Bd n 311 [.slice 1 p 64] st):=by
 obtain⟨n,rfl⟩: ∃m,n=m+1:=⟨n-1,by omega⟩;rw[Ze,h.af0];unfold S7 bV uN aA tl Fw bq jw FE lW aZ Bt Ls xG FC Lb Li Fo FD;simp only[aX,aq,ZL];refine Ok.cv (Fs n p l st hs hl) λs1 aH=>?_
 have eX:=hs.mono aH;obtain⟨Q,hQ⟩: ∃Q:Out ah×St->Prop,(λo=>∃s',aB st s'/\match iY l with
   |none=>o=(.val [.agg [.int .i64 0,.int .i64 0,.int .i64 0,.int .i64 0,.slice 0 none 0],.bool false],s')
   |some x=>∃q,o=(.val [.agg (oA x 1 q),.bool true],s')/\Fz s' q (ints x.kids))=Q:=⟨_,rfl⟩
 have bad: ∀s',aB st s'->iY l=none->Ok Q ((bZ st.length [.agg [.int .i64 0,.int .i64 0,.int .i64 0,.int .i64 0,.slice 0 none 0],.bool false]:M ah) s'):=λs' hp hg=>by
  rw[Zp,<-hQ];refine .mk ⟨_,Zr hp,?_⟩;rw[hg]
 rw[hQ];unfold yS;cases ho:fM l with
 |none=>
  simp only[av,bR,au,aq];rw[Za,bn,ae];simp only[au,aq];rw[Za,ae];simp only[au,aq];rw[ae];exact bad s1 aH (by unfold iY;rw[ho])
 |some q=>
  obtain⟨k,t,b⟩:=q;obtain⟨_,hb,_,ht⟩:=sb ho;simp only[av,bR,au,aq];rw[Za,br,af,nn k 1 1 rfl];simp only[au,aq];rw[Za];by_cases hk:k=1
  .subst hk
   rw[ax rfl,br,af];simp only[au,aq];by_cases Eu:t<=12
   .rw[aF (show ¬(t:Int)>12 by omega),af]
    have cI:=ZvC ho Eu;have rn: ∀(a c:Nat),c<=8->run Bd n 292 [.str ((b.take (a+c)).drop a)] s1=some (.val [.int .i64 (bN b a c)],s1):=λa c hc=>by
     rw[xB n _ s1 (zU hc),zQ]
    rw[Zb (ax (by omega)),qF (rn 16 4 (by omega)) (.refl _)];simp only[av,aq];rw[Zb (ax (by omega)),qF (rn 20 4 (by omega)) (.refl _)];simp only[av,aq];have r0:run Bd n 292 [.str (b.take 8)] s1=some (.val [.int .i64 (bN b 0 8)],s1):=by
     have:=rn 0 8 (by omega);rwa [dK]at this
    rw[Zb (ax (by omega)),qF r0 (.refl _)];simp only[av,aq];rw[Zb (ax (by omega)),qF (rn 8 8 (by omega)) (.refl _)];simp only[av,aq];refine Ok.join λaW kK=>?_
    refine Zi _ (λq y s=>∃(i z:Nat) (pk:ai),y=[.agg [.int .i64 (bN b 16 4),.int .i64 (bN b 20 4),.int .i64 (bN b 0 8),.int .i64 (bN b 8 8),.slice z pk i],.int .i64 i]/\(z=1\/pk=none)/\i<=t/\t-i<=q/\bm st s pk (ints (oS b i))/\dc s p l) ?_ t n _ _ ⟨0,0,none,rfl,.inr rfl,by omega,by omega,.nil aH,eX⟩ (by omega);rintro q _ s ⟨i,z,pk,rfl,hz,hi,hq,gq,vh⟩ rec aN;rw[dT];simp only[av,Zg 1 z pk _ hz,aq];have fY:(oS b i).length=i:=Dr b i;have jT:(ints (oS b i)).length=i*1:=by simp[ints,fY]
    by_cases aw:i<t
    .have cG:ar ((i:Int)+1)=((i+1:Nat):Int):=Zc
     have jA:ar (2*(i:Int))=((2*i:Nat):Int):=Zc;have j4:ar (26+((2*i:Nat):Int))=((24+2*i+2:Nat):Int):=by rw[Zc];omega
     have pC:ar (24+((2*i:Nat):Int))=((24+2*i:Nat):Int):=by rw[Zc];omega
     simp only[cG,jA,j4,pC,bp];rw[ax (show(i:Int)<(t:Int) by omega),ae];rw[Zb (by rw[aY,bu,bu];omega),Zb (by rw[aY,bu,bu];omega)];rw[vZ (xB n _ s (zU (a:=24+2*i))),zQ];simp only[av,aq];obtain⟨q2,s2,du,vj⟩:=gq.push (β:=ah) (sz:=1) (n:=i) (lim:=8796093022208) [.int .i64 (bN b (24+2*i) 2)] (by omega) jT rfl (by omega);rw[vj];refine aN (t-(i+1)) _ _ (by omega) ⟨i+1,1,q2,rfl,.inl rfl,by omega,aQ _,?_,?_⟩
     .rw[Znu,show ints (oS b i++[bN b (24+2*i) 2])=ints (oS b i)++[.int .i64 (bN b (24+2*i) 2)] by unfold ints;rw[fA];rfl]
      exact du
     .exact hs.mono du.1
    .rw[aF (show ¬(i:Int)<(t:Int) by omega),af]
     have AA:i=t:=by omega
     subst AA;subst kK;show Ok Q (ba [DV.agg _] _ s);rw[dT];simp only[av,aX,aq];have dA:Sl s pk (ints (lZ b i).kids):=gq.sl;have ot:(lZ b i).kids.length=i:=fY;have nx:([.int .i64 (bN b 16 4),.int .i64 (bN b 20 4),.int .i64 (bN b 0 8),.int .i64 (bN b 8 8),.slice 1 pk i]:ah)=oA (lZ b i) 1 pk:=by
      unfold oA fk lZ;grind
     rw[nx];refine Ok.call (ZpD n (lZ b i) 1 pk s (.inl rfl) dA (by omega) (by omega)) ?_;rintro _ rfl;refine⟨_,s,rfl,?_⟩;simp only[au,aq];rw[Za];cases hr:oR (lZ b i)with
     |false=>
      rw[hr,gf,af]at cI;rw[bn,ae];simp only[au,aq];rw[ae];exact bad s gq.1 cI
     |true=>
      rw[hr,dF]at cI;rw[br,af];refine Ok.cx (Zml n (lZ b i) 1 pk s (.inl rfl) dA (by omega)) λs2 aU=>?_
      simp only[bR,aq];have rl: ∀(K:ah->M ah),dy p 64 K s2=K (bU l) s2:=λK=>by
       have:=iR (show Sl _ _ (bU l)from vh.mono aU) K;rwa [Zu,hl]at this
      rw[rl,<-ll,oJ];simp only[au,aq];have rq:=gq.mono aU;cases cN:(xe (lZ b i)==l)with
      |false=>
       rw[cN]at cI;rw[bn,ae];exact bad s2 rq.1 cI
      |true=>
       rw[cN,ae]at cI;rw[br,af,Zp,<-hQ];refine .mk ⟨_,Zr rq.1,?_⟩;rw[cI];exact⟨pk,rfl,rq.fz⟩
   .rw[ax (show(t:Int)>12 by omega),ae]
    refine bad s1 aH ?_;unfold iY;rw[ho];grind
  .rw[aF hk,bn,ae]
   simp_all[iY]
def Zpz (n:Nat) (p:ai) (l:aj) (st:St) (hs:dc st p l) (hl:l.length=64) (hn:3000<=n):
  Ok (λo=>∃s',aB st s'/\match lh l with
   |none=>o=(.val [.slice 0 none 0,.bool false],s')
   |some x=>∃q,o=(.val [.slice 1 q x.length,.bool true],s')/\Sl s' q (ints x)/\x.length<=16) (run Bd n 269 [.slice 1 p 64] st):=by
 obtain⟨n,rfl⟩: ∃m,n=m+1:=⟨n-1,by omega⟩;rw[Ze,h.afy];unfold Rk bV uN aA fB uB kb cw aZ uE Lb Ls Li dY iw;simp only[aX,aq,ZL];refine Ok.cv (Fs n p l st hs hl) λs1 aH=>?_
 obtain⟨Q,hQ⟩: ∃Q:Out ah×St->Prop,(λo=>∃s',aB st s'/\match lh l with
   |none=>o=(.val [.slice 0 none 0,.bool false],s')
   |some x=>∃q,o=(.val [.slice 1 q x.length,.bool true],s')/\Sl s' q (ints x)/\x.length<=16)=Q:=⟨_,rfl⟩
 have bad: ∀s',aB st s'->lh l=none->Ok Q ((bZ st.length [.slice 0 none 0,.bool false]:M ah) s'):=λs' hp hg=>by
  rw[Zp,<-hQ];refine .mk ⟨_,Zr hp,?_⟩;rw[hg]
 rw[hQ];unfold yS;cases ho:fM l with
 |none=>
  simp only[av,bR,au,aq];rw[Za,bn,ae];simp only[au,aq];rw[Za,ae];simp only[au,aq];rw[ae];exact bad s1 aH (by unfold lh;rw[ho])
 |some q=>
  obtain⟨k,t,b⟩:=q;obtain⟨_,hb,_,ht⟩:=sb ho;simp only[av,bR,au,aq];rw[Za,br,af,nn k 6 6 rfl];simp only[au,aq];rw[Za];by_cases hk:k=6
  .subst hk
   rw[ax rfl,br,af];simp only[au,aq];by_cases Eu:t<=16
   .rw[aF (show ¬(t:Int)>16 by omega),af]
    have cI:=Zwp ho Eu;refine Ok.join λaW kK=>?_
    refine Zi _ (λq y s=>∃(i z:Nat) (pk:ai),y=[.slice z pk i,.int .i64 i]/\(z=1\/pk=none)/\i<=t/\t-i<=q/\bm st s pk (ints (dU b i))) ?_ t n _ _ ⟨0,0,none,rfl,.inr rfl,by omega,by omega,.nil aH⟩ (by omega);rintro q _ s ⟨i,z,pk,rfl,hz,hi,hq,gq⟩ rec aN;simp only[av,Zg 1 z pk _ hz,aq];have fY:(dU b i).length=i:=nW b i;have jT:(ints (dU b i)).length=i*1:=by simp[ints,fY]
    by_cases aw:i<t
    .have cG:ar ((i:Int)+1)=((i+1:Nat):Int):=Zc
     have jA:ar (2*(i:Int))=((2*i:Nat):Int):=Zc;have j4:ar (((2*i:Nat):Int)+2)=((2*i+2:Nat):Int):=by rw[Zc];omega
     simp only[cG,jA,j4,bp];rw[ax (show(i:Int)<(t:Int) by omega),ae];rw[Zb (by rw[aY,bu,bu];omega),Zb (by rw[aY,bu,bu];omega)];rw[Zk (xB n _ s (zU (a:=2*i))),zQ];simp only[av,aq];obtain⟨q2,s2,du,vj⟩:=gq.push (β:=ah) (sz:=1) (n:=i) (lim:=8796093022208) [.int .i64 (bN b (2*i) 2)] (by omega) jT rfl (by omega);rw[vj];refine aN (t-(i+1)) _ _ (by omega) ⟨i+1,1,q2,rfl,.inl rfl,by omega,aQ _,?_⟩;rw[Mg,show ints (dU b i++[bN b (2*i) 2])=ints (dU b i)++[.int .i64 (bN b (2*i) 2)] by unfold ints;rw[fA];rfl];exact du
    .rw[aF (show ¬(i:Int)<(t:Int) by omega),af]
     have AA:i=t:=by omega
     subst AA;subst kK;simp only[aX,aq];have hdc:=ZmZ n (dU b i) 1 pk s (.inl rfl) gq.sl;rw[fY]at hdc;refine Ok.cv hdc λs2 aU=>?_
     have rq:=gq.mono aU;cases Cx:zY (dU b i)with
     |none=>
      rw[Cx]at cI;show Ok Q (eQ [.str [],.bool false] _ s2);simp only[bR,au,aq];rw[Za,bn,ae];simp only[au,aq];rw[ae];exact bad s2 rq.1 cI
     |some c=>
      rw[Cx]at cI;simp only at cI;show Ok Q (eQ [.str c,.bool true] _ s2);simp only[bR,au,aq];rw[Za,br,af];have rl: ∀(K:ah->M ah),dy p 64 K s2=K (bU l) s2:=λK=>by
       have:=iR (show Sl _ _ (bU l)from hs.mono rq.1) K;rwa [Zu,hl]at this
      rw[rl,<-ll,oJ];simp only[au,aq];cases cN:(c==l)with
      |false=>
       rw[cN]at cI;rw[bn,ae];exact bad s2 rq.1 cI
      |true=>
       rw[cN]at cI;rw[br,af,Zp,<-hQ];refine .mk ⟨_,Zr rq.1,?_⟩;rw[cI];exact⟨pk,by rw[fY],rq.sl.dQ _,by omega⟩
   .rw[ax (show(t:Int)>16 by omega),ae]
    refine bad s1 aH ?_;unfold lh;rw[ho];grind
  .rw[aF hk,bn,ae]
   simp_all[lh]
def Zxd (k:Int):se k=jO k:=by
 grind[se,jO]
def ZpS (n:Nat) (x:ZH) (st:St) (hl:x.dz.length=12) (hm:x.mask<4294967296) (hs:x.name.length<1000) (hn:x.name.length+30<=n):
  Ok (λo=>∃s',o=(.val [.bool (mO x)],s')/\aB st s') (run Bd n 293 [.agg (Z0 x)] st):=by
 obtain⟨n,rfl⟩: ∃m,n=m+2:=⟨n-2,by omega⟩;rw[Ze,h.afN];unfold RX bq aA Q_ iX Ls Lb gJ Li;rw[dT];unfold Z0;have jT:(ints x.dz).length=12:=by simp[ints,hl]
 simp only[bR,av];rw[bI jT];simp only[aq];rw[bI (by grind)];refine Ok.cv (Zku (n+1) x.name (by omega) (by omega) st) λs1 aH=>?_
 simp only[au,aq];have bad:mO x=false->Ok (λo=>∃s',o=(.val [.bool (mO x)],s')/\aB st s') ((ay [.bool false]:M ah) s1):=λhr=>by
  rw[Zd];exact .mk ⟨s1,by rw[hr],aH⟩
 rw[Za];cases wQ:qJ x.name with
 |false=>
  rw[bn,ae];simp only[au,aq];rw[Za,ae];simp only[au,aq];rw[ae];exact bad (by grind[mO])
 |true=>
 rw[br,af,aF (show ¬((x.mask:Nat):Int)<0 by omega)];simp only[au,aq];rw[Za,af];by_cases h4:((x.mask:Nat):Int)>4095
 .rw[ax h4]
  simp only[au,aq];rw[ae];grind[mO]
 rw[aF h4];simp only[au,aq];rw[af];have hq:mO x=(List.range 12).all λi=>qZ x.mask i (x.dz.getD i 0):=by
  grind[mO]
 refine Ok.join λaW kK=>?_
 refine Zi _ (λq y t=>∃i:Nat,y=[.int .i64 ((x.mask/2^i:Nat):Int),.int .i64 (i:Int)]/\i<=12/\12-i<=q/\t=s1/\∀j,j<i->qZ x.mask j (x.dz.getD j 0)=true) ?_ 12 (n+1) _ _ (by grind) (by omega);rintro q y t ⟨i,rfl,hi,hqi,rfl,dt⟩ rec aN;simp only[av,aq];by_cases aw:i<12
 .have da:(ints x.dz)[i]? =some (.int .i64 (x.dz.getD i 0)):=by
   rw[ZD,dW,cq (by omega)];rfl
  obtain⟨w,hw⟩: ∃w,x.dz.getD i 0=w:=⟨_,rfl⟩;obtain⟨m,lx⟩: ∃m,x.mask/2^i=m:=⟨_,rfl⟩;have fu:x.mask/2^(i+1)=m/2:=by rw[uw,<-E8,lx]
  have akh:m<=x.mask:=by rw[<-lx];exact E9 _ _
  have hhf:qZ x.mask i w=bif decide (m%2=1)then jO w else w==0:=by
   unfold qZ eE;rw[lx,Zxd]
  rw[hw]at da;rw[lx,ax (show(i:Int)<12 by omega),ae];have e0:(((m:Nat):Int).tmod 2==0)=decide (m%2=0):=by
   rw[show((m:Nat):Int).tmod 2=((m%2:Nat):Int)from rfl];exact nn _ 0 0 rfl
  have e1:(((m:Nat):Int).tmod 2==1)=decide (m%2=1):=by
   rw[show((m:Nat):Int).tmod 2=((m%2:Nat):Int)from rfl];exact nn _ 1 1 rfl
  rw[e0,e1];have Ak:qZ x.mask i w=true->Ok (λo=>∃s',o=(.val [.bool (mO x)],s')/\aB st s') (rec [.int .i64 (ar (((m:Nat):Int).tdiv 2)),.int .i64 (ar ((i:Int)+1))] t):=λhf=>by
   rw[show((m:Nat):Int).tdiv 2=((m/2:Nat):Int)from rfl,Zc,Zc];refine aN (12-(i+1)) _ _ (by omega) ⟨i+1,by rw[fu];rfl,by omega,aQ _,rfl,λj hj=>?_⟩;by_cases nz:j=i
   .rw[nz,hw];exact hf
   grind
  rw[Za];by_cases Oy:m%2=1
  .rw[ax Oy,ae]at hhf
   rw[aF (show ¬m%2=0 by omega),af];simp only[au,aq];rw[Za,af,Za,ax Oy,ae,Zb (show aR (i:Int) 12=true from Zj aw)];simp only[bp,cR];rw[hJ da];simp only[bg];rw[Zk (HP n w t)];simp only[au,aq];grind
  .rw[aF Oy,af]at hhf
   rw[ax (show m%2=0 by omega),ae,Zb (show aR (i:Int) 12=true from Zj aw)];simp only[bp,cR];rw[hJ da];simp only[bg,au,aq];rw[Za];cases hz:(w==0)with
   |true=>
    rw[br,af,Za,aF Oy,af];simp only[au,aq];rw[af];grind
   |false=>
    rw[bn,ae];simp only[au,aq];rw[ae];grind
 .rw[aF (show ¬(i:Int)<12 by omega),af,kK]
  simp only[aq,Zd];refine .mk ⟨t,?_,aH⟩;grind
def Zsm (n:Nat) (p:ai) (l:aj) (st:St) (hs:dc st p l) (hl:l.length=64) (hn:3000<=n):
  Ok (λo=>∃s',aB st s'/\match ZJ l with
   |none=>o=(.val [.agg (Z0 DL),.bool false],s')
   |some x=>o=(.val [.agg (Z0 x),.bool true],s')/\x.dz.length=12) (run Bd n 270 [.slice 1 p 64] st):=by
 obtain⟨n,rfl⟩: ∃m,n=m+1:=⟨n-1,by omega⟩;rw[Ze,h.afz];unfold Tc bV uN aA tl bq jw cP cw aZ Fj Ls Lb Li Fl;simp only[aX,aq];refine Ok.cv (Fs n p l st hs hl) λs1 aH=>?_
 have eX:=hs.mono aH;obtain⟨Q,hQ⟩: ∃Q:Out ah×St->Prop,(λo=>∃s',aB st s'/\match ZJ l with
   |none=>o=(.val [.agg (Z0 DL),.bool false],s')
   |some x=>o=(.val [.agg (Z0 x),.bool true],s')/\x.dz.length=12)=Q:=⟨_,rfl⟩
 have hq0:(Z0 DL:ah)=[.str (bs []),.int .i64 0,.int .i64 0,.int .i64 0,.int .i64 0,.int .i64 0,.int .i64 0,.int .i64 0,.int .i64 0,.int .i64 0,.int .i64 0,.int .i64 0,.int .i64 0,.int .i64 0]:=rfl;rw[<-hq0];have bad: ∀s',aB st s'->ZJ l=none->Ok Q ((ay [.agg (Z0 DL),.bool false]:M ah) s'):=λs' hp hg=>by
  rw[Zd,<-hQ];refine .mk ⟨s',hp,?_⟩;rw[hg]
 rw[hQ];unfold yS;cases ho:fM l with
 |none=>
  simp only[av,bR,au,aq];rw[Za,bn,ae];simp only[au,aq];rw[Za,ae];simp only[au,aq];rw[ae];exact bad s1 aH (by grind[ZJ])
 |some q=>
  obtain⟨k,t,b⟩:=q;obtain⟨_,hb,_,ht⟩:=sb ho;simp only[av,bR,au,aq];rw[Za,br,af,nn k 5 5 rfl];simp only[au,aq];rw[Za];by_cases hk:k=5
  .subst hk
   rw[ax rfl,br,af];simp only[au,aq];by_cases Eu:t<=28
   .rw[aF (show ¬(t:Int)>28 by omega),af]
    have cI:=Zui ho Eu;have r0:run Bd n 292 [.str (b.take 4)] s1=some (.val [.int .i64 ((rd b 0 4:Nat):Int)],s1):=by
     rw[xB n _ s1 (by rw[cX];omega)];have e:ez (b.take 4)=rd b 0 4:=by unfold rd;rw[dK]
     have aw:=Pq b 0 4;rw[e,Zc]
    rw[Zb (ax (by omega)),qF r0 (.refl _)];simp only[av,aq];have aiG:ar (28+(t:Int))=((28+t:Nat):Int):=by rw[Zc];omega
    rw[aiG,Zb (by rw[aY,bu,bu];omega),Zb (ax (by omega))];simp only[bp];have wQ:(b.take (28+t)).drop 28=(b.drop 28).take t:=by rw[C5,show 28+t-28=t by omega]
    rw[wQ];refine Ok.join λaW kK=>?_
    refine Zi _ (λq y s=>∃i:Nat,y=[.agg (DV.str ((b.drop 28).take t)::DV.int .i64 ((rd b 0 4:Nat):Int)::(ints (ZV b i)++ints (List.replicate (12-i) 0))),.int .i64 i]/\i<=12/\12-i<=q/\s=s1) ?_ 12 n _ _ ⟨0,rfl,by omega,by omega,rfl⟩ (by omega);rintro q _ s ⟨i,rfl,hi,hq,rfl⟩ rec aN;have hlen:(ints (ZV b i)++ints (List.replicate (12-i) 0)).length=12:=by
     simp[ints,Ds];omega
    rw[dT];simp only[bR,av];rw[bI hlen];simp only[av,aq];by_cases aw:i<12
    .have cG:ar ((i:Int)+1)=((i+1:Nat):Int):=Zc
     have jA:ar (2*(i:Int))=((2*i:Nat):Int):=Zc;have j4:ar (6+((2*i:Nat):Int))=((4+2*i+2:Nat):Int):=by rw[Zc];omega
     have pC:ar (4+((2*i:Nat):Int))=((4+2*i:Nat):Int):=by rw[Zc];omega
     simp only[cG,jA,j4,pC,bp,cR];rw[ax (show(i:Int)<12 by omega),ae];rw[Zb (by rw[aY,bu,bu];omega),Zb (by rw[aY,bu,bu];omega)];rw[Zk (xB n _ s (zU (a:=4+2*i))),zQ];simp only[av,aq];rw[Zb (show aR (i:Int) 12=true from Zj aw),Zb (gA (by omega))];refine aN (12-(i+1)) _ _ (by omega) ⟨i+1,?_,by omega,aQ _,rfl⟩;congr 4;rw[Zl0,show List.replicate (12-i) (0:Int)=0::List.replicate (12-(i+1)) 0 by rw[show 12-i=(12-(i+1))+1 by omega];rfl];have e3:i=(ints (ZV b i)).length:=by simp[ints,Ds]
     have e4:=tw (ints (ZV b i)) [.int .i64 0] (ints (List.replicate (12-(i+1)) 0)) [.int .i64 (bN b (4+2*i) 2)] rfl;rw[<-e3]at e4;show cE (ints (ZV b i)++([.int .i64 0]++ints (List.replicate (12-(i+1)) 0))) i [.int .i64 (bN b (4+2*i) 2)]=ints (ZV b i++[bN b (4+2*i) 2])++_;rw[e4,show ints (ZV b i++[bN b (4+2*i) 2])=ints (ZV b i)++[.int .i64 (bN b (4+2*i) 2)] by unfold ints;rw[fA];rfl,fI]
    .rw[aF (show ¬(i:Int)<12 by omega),af]
     have p8:i=12:=by omega
     subst p8;rw[show ints (ZV b 12)++ints (List.replicate (12-12) 0)=ints (ZV b 12)from gz _]at hlen⊢;have nx:(DV.str ((b.drop 28).take t)::DV.int .i64 ((rd b 0 4:Nat):Int)::ints (ZV b 12))=Z0 (Z9 b t):=rfl;have tY:(Z9 b t).dz.length=12:=Ds b 12;have JW:(Z9 b t).mask<4294967296:=Pq b 0 4;have Ou:(Z9 b t).name.length<=28:=by
      show((b.drop 28).take t).length<=28;rw[cX];omega
     subst kK;show Ok Q (ba [DV.agg _] _ s);rw[dT];simp only[bR,av];rw[bI hlen];simp only[aq];rw[nx];refine Ok.cv (ZpS n (Z9 b t) s tY JW (by omega) (by omega)) λs2 aU=>?_
     simp only[au,aq];rw[Za];cases hr:mO (Z9 b t)with
     |false=>
      rw[hr,gf,af]at cI;rw[bn,ae];simp only[au,aq];rw[ae];exact bad s2 (aH.trans aU) cI
     |true=>
      rw[hr,dF]at cI;rw[br,af];refine Ok.cx (ZmJ n (Z9 b t) tY (by omega) s2 (by omega)) λs3 cu=>?_
      simp only[bR,aq];have rl: ∀(K:ah->M ah),dy p 64 K s3=K (bU l) s3:=λK=>by
       have:=iR (show Sl _ _ (bU l)from eX.mono (aU.trans cu)) K;rwa [Zu,hl]at this
      rw[rl,<-ll,oJ];simp only[au,aq];cases cN:(yV (Z9 b t)==l)with
      |false=>
       rw[cN]at cI;rw[bn,ae];exact bad s3 (aH.trans (aU.trans cu)) cI
      |true=>
       rw[cN,ae]at cI;rw[br,af,bI (by rw[<-nx];simp[hlen]),Zd,<-hQ];refine .mk ⟨s3,aH.trans (aU.trans cu),?_⟩;rw[cI];exact⟨rfl,tY⟩
   .rw[ax (show(t:Int)>28 by omega),ae]
    refine bad s1 aH ?_;unfold ZJ;rw[ho];grind
  .rw[aF hk,bn,ae]
   simp_all[ZJ]
def sA:ak:=List.replicate 16 0
def gL (img:aj) (k:Int):Option (ak):=if k=0 then some sA else match jt img k with
 |none=>none
 |some l=>iM l
def kq (img:aj) (k:Int):Option (List bw):=if k=0 then some nG else match jt img k with
 |none=>none
 |some l=>ZM l
def IE (img:aj) (k:Int):((gL img k).getD sA).length=16:=by
 unfold gL;by_cases h:k=0
 .rw[bE h];rfl
 .rw[bj h]
  cases hl:jt img k with
  |none=>rfl
  |some l=>
   simp only;cases hg:iM l with
   |none=>rfl
   |some f=>exact T7 hg
def Mw (img:aj) (k:Int):((kq img k).getD nG).length=7:=by
 unfold kq;by_cases h:k=0
 .rw[bE h];rfl
 .rw[bj h]
  cases hl:jt img k with
  |none=>rfl
  |some l=>
   simp only;cases hg:ZM l with
   |none=>rfl
   |some f=>exact Ic hg
def Zy (l:ak):(ints l).length=l.length:=by simp[ints]
def Zwj:(ints sA:ah)=List.replicate 16 (.int .i64 0):=rfl
def LQ (n:Nat) (img:aj) (k:Int) (st:St) (hl:img.length<1000000) (hn:600<=n:=by omega):
  Ok (λo=>∃s',o=(.val [.agg (ints ((gL img k).getD sA)),.bool (gL img k).isSome],s')/\aB st s') (run Bd n 289 [.str img,.int .i64 k] st):=by
 obtain⟨n,rfl⟩: ∃m,n=m+2:=⟨n-2,by omega⟩;rw[Ze,h.afJ];unfold SY nU pL jg eI aZ;simp only[bR,av,aq];rw[<-Zwj];by_cases h0:k=0
 .have e:gL img k=some sA:=by grind[gL]
  rw[h0,xq,ae,Zd,<-h0,e];exact .mk ⟨st,rfl,.refl _⟩
 .have e:gL img k=(match jt img k with|none=>none|some l=>iM l):=by grind[gL]
  rw[eG.2 h0,af];refine Ok.call (Ft n img k st hl) ?_;rintro o ⟨s1,aH,ho⟩;rw[e];cases nC:jt img k with
  |none=>
   rw[nC]at ho;simp only at ho;subst ho;refine⟨_,s1,rfl,?_⟩;simp only[Zg 1 0 none _ (.inr rfl),au,aq];rw[bn,ae,Zd];exact .mk ⟨s1,rfl,aH⟩
  |some l=>
   rw[nC]at ho;obtain⟨p,rfl,hf,qX⟩:=ho;refine⟨_,s1,rfl,?_⟩;simp only[aX,au,aq];rw[br,af];refine Ok.call (ZoT (n+1) p l s1 hf.1 qX (by omega)) ?_;rintro o ⟨s2,aU,ho⟩;cases hg:iM l with
   |none=>
    rw[hg]at ho;simp only at ho;subst ho;refine⟨_,s2,rfl,?_⟩;show Ok _ (ba [.agg (ints sA),.bool false] _ s2);rw[dT];simp only[au,aq];rw[bI (by rw[Zy];rfl),bI (by rw[Zy];rfl),Zd];exact .mk ⟨s2,rfl,aH.trans aU⟩
   |some f=>
    rw[hg]at ho;obtain⟨rfl,ep⟩:=ho;refine⟨_,s2,rfl,?_⟩;rw[dT];simp only[au,aq];rw[bI (by rw[Zy];exact ep),bI (by rw[Zy];exact ep),Zd];exact .mk ⟨s2,rfl,aH.trans aU⟩
def ZlL (n:Nat) (img:aj) (k:Int) (st:St) (hl:img.length<1000000) (hn:600<=n:=by omega):
  Ok (λo=>∃s',o=(.val [.agg (bT ((kq img k).getD nG)),.bool (kq img k).isSome],s')/\aB st s') (run Bd n 290 [.str img,.int .i64 k] st):=by
 obtain⟨n,rfl⟩: ∃m,n=m+2:=⟨n-2,by omega⟩;rw[Ze,h.afK];unfold Tj nU pL jg ZI eI aZ;simp only[bR,av,aq];rw[<-ZqX];have O7: ∀ {f:List bw},f.length=7->(bT f).length=21:=λhf=>by rw[ZB,hf]
 by_cases h0:k=0
 .have e:kq img k=some nG:=by grind[kq]
  rw[h0,xq,ae,Zd,<-h0,e];exact .mk ⟨st,rfl,.refl _⟩
 .have e:kq img k=(match jt img k with|none=>none|some l=>ZM l):=by grind[kq]
  rw[eG.2 h0,af];refine Ok.call (Ft n img k st hl) ?_;rintro o ⟨s1,aH,ho⟩;rw[e];cases nC:jt img k with
  |none=>
   rw[nC]at ho;simp only at ho;subst ho;refine⟨_,s1,rfl,?_⟩;simp only[Zg 1 0 none _ (.inr rfl),au,aq];rw[bn,ae,Zd];exact .mk ⟨s1,rfl,aH⟩
  |some l=>
   rw[nC]at ho;obtain⟨p,rfl,hf,qX⟩:=ho;refine⟨_,s1,rfl,?_⟩;simp only[aX,au,aq];rw[br,af];refine Ok.call (ZnX (n+1) p l s1 hf.1 qX (by omega)) ?_;rintro o ⟨s2,aU,ho⟩;cases hg:ZM l with
   |none=>
    rw[hg]at ho;simp only at ho;subst ho;refine⟨_,s2,rfl,?_⟩;rw[dT];simp only[au,aq];rw[bI (O7 rfl),bI (O7 rfl),Zd];exact .mk ⟨s2,rfl,aH.trans aU⟩
   |some f=>
    rw[hg]at ho;obtain⟨rfl,ep⟩:=ho;refine⟨_,s2,rfl,?_⟩;rw[dT];simp only[au,aq];rw[bI (O7 ep),bI (O7 ep),Zd];exact .mk ⟨s2,rfl,aH.trans aU⟩
def me (img:aj) (top:Int) (slot:Nat):Option bw:=match gL img top with
 |none=>none
 |some f=>match gL img (f.getD (slot/112) 0)with
  |none=>none
  |some g=>match kq img (g.getD (slot/7%16) 0)with
   |none=>none
   |some l=>l[slot%7]?
def Uz {x:bw} (h:l[j]? =some x):((bT l).drop (j*3)).take 3=eL x:=by
 obtain⟨A,B,rfl,hA⟩: ∃A B,l=A++x::B/\A.length=j:=by
  obtain⟨hj,hx⟩:=ef.1 h;exact⟨l.take j,l.drop (j+1),by rw[<-hx];simp,by rw[cX];omega⟩
 have e:bT (A++x::B)=bT A++(eL x++bT B):=by rw[Iv];rfl
 rw[e,List.drop_append_of_le_length (by rw[ZB,hA];omega),lU (by rw[ZB,hA];omega),jG];rfl
def zM {l:ak} (h:j<l.length:=by omega):(ints l)[j]? =some (.int .i64 (l.getD j 0)):=by
 rw[ZD h,dW,cq h];rfl
def ZrP (n:Nat) (img:aj) (top:Int) (slot:Nat) (st:St) (hl:img.length<1000000) (hs:slot<1792) (hn:700<=n):
  Ok (λo=>∃s',o=(.val [.agg (eL ((me img top slot).getD gT)),.bool (me img top slot).isSome],s')/\aB st s') (run Bd n 267 [.str img,.int .i64 top,.int .i64 (slot:Int)] st):=by
 obtain⟨n,rfl⟩: ∃m,n=m+1:=⟨n-1,by omega⟩;rw[Ze,h.afw];unfold Sb iX jg aA eI rV Lb;simp only[bR,av,aq];have ad4:ar ((slot:Int).tdiv 112)=((slot/112:Nat):Int):=by
  rw[show(slot:Int).tdiv 112=((slot/112:Nat):Int)from rfl];exact Zc
 have e7:ar ((slot:Int).tdiv 7)=((slot/7:Nat):Int):=by
  rw[show(slot:Int).tdiv 7=((slot/7:Nat):Int)from rfl];exact Zc
 have Wu:((slot/7:Nat):Int).tmod 16=((slot/7%16:Nat):Int):=rfl;have em7:(slot:Int).tmod 7=((slot%7:Nat):Int):=rfl;refine Ok.cv (LQ n img top st hl) λs1 aH=>?_
 have ep:=IE img top;obtain⟨f,hf⟩: ∃f,(gL img top).getD sA=f:=⟨_,rfl⟩;rw[hf]at ep⊢;rw[dT];simp only[au,aq];rw[bI (by rw[Zy];exact ep),bI (by rw[Zy];exact ep),ad4,e7,Wu,em7];simp only[bp,cR];rw[Zb (show aR ((slot/112:Nat):Int) 16=true from Zj),hJ (zM)];simp only[bg];refine Ok.cv (LQ n img (f.getD (slot/112) 0) s1 hl) λs2 aU=>?_
 have jm:=IE img (f.getD (slot/112) 0);obtain⟨g,hg⟩: ∃g,(gL img (f.getD (slot/112) 0)).getD sA=g:=⟨_,rfl⟩;rw[hg]at jm⊢;rw[dT];simp only[au,aq];rw[bI (by rw[Zy];exact jm),bI (by rw[Zy];exact jm),Za];have bad:me img top slot=none->Ok (λo=>∃s',o=(.val [.agg (eL ((me img top slot).getD gT)),.bool (me img top slot).isSome],s')/\aB st s') ((ay [.agg [.bool false,.int .i64 0,.int .i64 0],.bool false]:M ah) s2):=λhn=>by
  rw[hn,Zd];exact .mk ⟨s2,rfl,aH.trans aU⟩
 cases hF:gL img top with
 |none=>
  rw[show(!(none:Option (ak)).isSome)=true from rfl,ae];simp only[au,aq];rw[ae];refine bad ?_;unfold me;rw[hF]
 |some f'=>
  have Xe:f'=f:=by rw[<-hf,hF];rfl
  subst Xe;rw[show(!(some f').isSome)=false from rfl,af];simp only[au,aq];cases hG:gL img (f'.getD (slot/112) 0)with
  |none=>
   rw[show(!(none:Option (ak)).isSome)=true from rfl,ae];refine bad ?_;unfold me;rw[hF];simp only;rw[hG]
  |some g'=>
   have wN:g'=g:=by rw[<-hg,hG];rfl
   subst wN;rw[show(!(some g').isSome)=false from rfl,af,Zb (show aR ((slot/7%16:Nat):Int) 16=true from Zj),hJ (zM)];simp only[bg];refine Ok.cv (ZlL n img (g'.getD (slot/7%16) 0) s2 hl) λs3 cu=>?_
   have gp:=Mw img (g'.getD (slot/7%16) 0);obtain⟨l,GO⟩: ∃l,(kq img (g'.getD (slot/7%16) 0)).getD nG=l:=⟨_,rfl⟩;rw[GO]at gp⊢;have hx:l[slot%7]? =some (l[slot%7]'(by omega)):=by grind
   have W5:=Uz hx;rw[dT];simp only[au,aq];rw[bI (by rw[ZB,gp]),bI (by rw[ZB,gp]),Zb (show aR ((slot%7:Nat):Int) 7=true from Zj),Zb (gA (by omega)),W5,bI (show(eL _).length=3 from rfl),Zd];refine .mk ⟨s3,?_,aH.trans (aU.trans cu)⟩;have GF:me img top slot=(match kq img (g'.getD (slot/7%16) 0)with|none=>none|some l=>l[slot%7]?):=by
    unfold me;rw[hF];grind
   rw[GF];cases hL:kq img (g'.getD (slot/7%16) 0)with
   |none=>
    have vu:l=nG:=by rw[<-GO,hL];rfl
    have h0:l[slot%7]'(by omega)=gT:=by
     subst vu;exact List.eq_of_mem_replicate (kz _)
    rw[h0];rfl
   |some l'=>
    grind
def cD (acc:ak) (k:Int):ak:=bif k==0 then acc else acc++[k]
def mN (img:aj):ak->ak->Option (ak)
 |acc,[]=>some acc
 |acc,k::r=>match kq img k with
  |none=>none
  |some _=>mN img (cD acc k) r
def oT (img:aj):ak->ak->Option (ak)
 |acc,[]=>some acc
 |acc,k::r=>match gL img k with
  |none=>none
  |some g=>match mN img (cD acc k) g with
   |none=>none
   |some qS=>oT img qS r
def xS (img:aj) (top:Int):Option (ak):=match gL img top with
 |none=>none
 |some f=>oT img (cD [] top) f
def LA (st:St) (R:Option (ak)) (o:Out ah×St):Prop:=∃s',aB st s'/\match R with
 |none=>o=(.val [.slice 0 none 0,.bool false],s')
 |some l=>∃p,o=(.val [.slice 1 p l.length,.bool true],s')/\Sl s' p (ints l)
def Ztb (acc:ak) (k:Int):(cD acc k).length<=acc.length+1:=by
 grind[cD]
def Mn (l:ak) (k:Int):ints (l++[k])=ints l++[.int .i64 k]:=by simp[ints]
def I3 {l:ak} (h:i<l.length:=by omega):l.drop i=l.getD i 0::l.drop (i+1):=by
 rw[iV h,dW,cq h];rfl
def ZpV (n:Nat) (img:aj) (top:Int) (st:St) (hl:img.length<1000000) (hn:700<=n):
  Ok (LA st (xS img top)) (run Bd n 265 [.str img,.int .i64 top] st):=by
 obtain⟨n,rfl⟩: ∃m,n=m+1:=⟨n-1,by omega⟩;rw[Ze,h.afu];unfold Rw nU jg fB kb eI uE dY aZ Li;simp only[bR,av,aq,ZL];refine Ok.cv (LQ n img top st hl) λs1 aH=>?_
 have ep:=IE img top;obtain⟨f,hf⟩: ∃f,(gL img top).getD sA=f:=⟨_,rfl⟩;rw[hf]at ep⊢;rw[dT];simp only[au,aq];rw[bI (by rw[Zy];exact ep),bI (by rw[Zy];exact ep)];obtain⟨R,hR⟩: ∃R,xS img top=R:=⟨_,rfl⟩;rw[hR];have bad: ∀s',aB st s'->R=none->Ok (LA st R) ((bZ st.length [.slice 0 none 0,.bool false]:M ah) s'):=λs' hp hn=>by
  rw[hn,Zp];exact .mk ⟨_,Zr hp,rfl⟩
 cases hF:gL img top with
 |none=>
  rw[show(!(none:Option (ak)).isSome)=true from rfl,ae];grind[xS]
 |some f'=>
  have Xe:f'=f:=by rw[<-hf,hF];rfl
  subst Xe;have hRf:R=oT img (cD [] top) f':=by
   rw[<-hR];grind[xS]
  rw[show(!(some f').isSome)=false from rfl,af];refine Ok.join λaz nA=>?_
  have go: ∀(z:Nat) (p:ai) (s2:St),(z=1\/p=none)->bm st s2 p (ints (cD [] top))->Ok (LA st R) (az [.slice z p (cD [] top).length] s2):=λz p s2 hz ho=>by
   subst nA;simp only[Zg 1 z p _ hz,aq];refine Ok.join λaI jU=>?_
   refine Zi _ (λq y t=>∃(i z:Nat) (p:ai) (out:ak),y=[.slice z p out.length,.int .i64 i]/\(z=1\/p=none)/\i<=16/\16-i<=q/\bm st t p (ints out)/\out.length<=1+17*i/\R=oT img out (f'.drop i)) ?_ 16 n _ _ ⟨0,1,p,cD [] top,rfl,.inl rfl,by omega,by omega,ho,by have:=Ztb [] top;simp at this;omega,by rw[dK];exact hRf⟩ (by omega);rintro q y t ⟨i,z,p,out,rfl,hz,hi,hq,ho,ig,wH⟩ rec aN;simp only[Zg 1 z p _ hz,av,aq];have jT: ∀l:ak,(ints l).length=l.length*1:=λl=>by rw[Zy,cR]
   by_cases aw:i<16
   .have fW:=I3 (l:=f') (i:=i)
    obtain⟨k,hk⟩: ∃k,f'.getD i 0=k:=⟨_,rfl⟩;rw[hk]at fW;have vo:(ints f')[i]? =some (.int .i64 k):=by rw[<-hk];exact zM
    rw[ax (show(i:Int)<16 by omega),ae];refine Ok.join λaW kK=>?_
    rw[Zb (show aR (i:Int) 16=true from Zj aw)];simp only[bp,cR];rw[hJ vo];simp only[bg];refine Ok.cv (LQ n img k t hl) λt1 aU=>?_
    have jm:=IE img k;obtain⟨g,hg⟩: ∃g,(gL img k).getD sA=g:=⟨_,rfl⟩;rw[hg]at jm⊢;rw[dT];simp only[au,aq];rw[bI (by rw[Zy];exact jm),bI (by rw[Zy];exact jm)];have rp:=ho.mono aU;rw[fW]at wH;cases hG:gL img k with
    |none=>
     rw[show(!(none:Option (ak)).isSome)=true from rfl,ae];refine bad t1 rp.1 ?_;rw[wH];unfold oT;rw[hG]
    |some g'=>
     have wN:g'=g:=by rw[<-hg,hG];rfl
     subst wN;have WT:R=(match mN img (cD out k) g' with|none=>none|some qS=>oT img qS (f'.drop (i+1))):=by
      rw[wH]
      conv=>lhs;unfold oT
      rw[hG]
     rw[show(!(some g').isSome)=false from rfl,af,Zb (show aR (i:Int) 16=true from Zj aw),hJ vo];simp only[bg];refine Ok.join λbz Ct=>?_
     have Wz: ∀(z:Nat) (p:ai) (s2:St),(z=1\/p=none)->bm st s2 p (ints (cD out k))->Ok (LA st R) (bz [.slice z p (cD out k).length] s2):=λz p s2 hz ho=>by
      subst Ct;simp only[Zg 1 z p _ hz,aq];refine Ok.join λck Cu=>?_
      have lN:=Ztb out k;refine Zi _ (λq y t=>∃(j z:Nat) (p:ai) (o:ak),y=[.slice z p o.length,.int .i64 j]/\(z=1\/p=none)/\j<=16/\16-j<=q/\bm st t p (ints o)/\o.length<=2+17*i+j/\mN img (cD out k) g'=mN img o (g'.drop j)) ?_ 16 n _ _ ⟨0,1,p,cD out k,rfl,.inl rfl,by omega,by omega,ho,by omega,rfl⟩ (by omega);rintro q2 y2 u ⟨j,z2,p2,o2,rfl,gS,hj,Er,du,GV,Js⟩ dw j3;simp only[Zg 1 z2 p2 _ gS,av,aq];by_cases kL:j<16
      .have abm:=I3 (l:=g') (i:=j)
       obtain⟨w,hw⟩: ∃w,g'.getD j 0=w:=⟨_,rfl⟩;rw[hw]at abm;have rh:(ints g')[j]? =some (.int .i64 w):=by rw[<-hw];exact zM
       rw[ax (show(j:Int)<16 by omega),ae,Zb (show aR (j:Int) 16=true from Zj kL)];simp only[bp,cR];rw[hJ rh];simp only[bg];refine Ok.cv (ZlL n img w u hl) λu1 cu=>?_
       have gp:=Mw img w;rw[dT];simp only[au,aq];rw[bI (by rw[ZB,gp]),bI (by rw[ZB,gp])];have nD:=du.mono cu;rw[abm]at Js;cases hL:kq img w with
       |none=>
        rw[show(!(none:Option (List bw)).isSome)=true from rfl,ae];refine bad u1 nD.1 ?_;rw[WT,Js];unfold mN;rw[hL]
       |some l=>
        have NZ:mN img (cD out k) g'=mN img (cD o2 w) (g'.drop (j+1)):=by
         rw[Js]
         conv=>lhs;unfold mN
         rw[hL]
        rw[show(!(some l).isSome)=false from rfl,af,Zb (show aR (j:Int) 16=true from Zj kL),hJ rh];simp only[bg];rw[Za];by_cases yG:w=0
        .have jZ:cD o2 w=o2:=by unfold cD;rw[yG];rfl
         rw[jZ]at NZ;rw[yG,show(!((0:Int)==0))=false from rfl,af];simp only[aX,aq];rw[Zc];exact j3 (16-(j+1)) _ _ (by omega) ⟨j+1,1,p2,o2,rfl,.inl rfl,by omega,aQ _,nD,by omega,NZ⟩
        .have jZ:cD o2 w=o2++[w]:=by unfold cD;rw[eG.2 yG];rfl
         rw[jZ]at NZ;rw[eG.2 yG,bn,ae,Zb (show aR (j:Int) 16=true from Zj kL),hJ rh];simp only[bg];obtain⟨p4,u4,sJ,JD⟩:=nD.push (β:=ah) (sz:=1) (n:=o2.length) (lim:=8796093022208) [.int .i64 w] (by omega) (jT o2) rfl (by omega);rw[JD];simp only[aX,aq];rw[Zc];rw[<-Mn]at sJ;exact j3 (16-(j+1)) _ _ (by omega) ⟨j+1,1,p4,o2++[w],by rw[bB,iK];rfl,.inl rfl,by omega,aQ _,sJ,by rw[bB,iK];omega,NZ⟩
      .rw[aF (show ¬(j:Int)<16 by omega),af,Cu]
       simp only[aX,aq];rw[kK];simp only[aX,aq];rw[Zc];rw[lU (by omega)]at Js;rw[Js]at WT;exact aN (16-(i+1)) _ _ (by omega) ⟨i+1,1,p2,o2,rfl,.inl rfl,by omega,aQ _,du,by omega,WT⟩
     by_cases lM:k=0
     .have jZ:cD out k=out:=by unfold cD;rw[lM];rfl
      rw[jZ]at Wz;rw[lM,show(!((0:Int)==0))=false from rfl,af];grind
     .have jZ:cD out k=out++[k]:=by unfold cD;rw[eG.2 lM];rfl
      rw[jZ]at Wz;rw[eG.2 lM,bn,ae,Zb (show aR (i:Int) 16=true from Zj aw),hJ vo];simp only[bg];obtain⟨p4,u4,sJ,JD⟩:=rp.push (β:=ah) (sz:=1) (n:=out.length) (lim:=8796093022208) [.int .i64 k] (by omega) (jT out) rfl (by omega);rw[JD];rw[<-Mn]at sJ;have:=Wz 1 p4 u4 (.inl rfl) sJ;rwa [bB,iK]at this
   .rw[aF (show ¬(i:Int)<16 by omega),af,jU]
    simp only[aX,aq,Zp];rw[lU (by omega)]at wH;refine .mk ⟨_,Zr ho.1,?_⟩;rw[wH];exact⟨p,rfl,ho.sl.dQ _⟩
  by_cases G9:top=0
  .have jZ:cD [] top=[]:=by unfold cD;rw[G9];rfl
   rw[jZ]at go;rw[G9,show(!((0:Int)==0))=false from rfl,af];exact go 0 none s1 (.inr rfl) (.nil aH)
  .have jZ:cD [] top=[top]:=by unfold cD;rw[eG.2 G9];rfl
   rw[jZ]at go;rw[eG.2 G9,bn,ae];obtain⟨p4,u4,sJ,JD⟩:=(bm.nil aH).push (β:=ah) (sz:=1) (n:=0) (lim:=8796093022208) [.int .i64 top] (by omega) rfl rfl (by omega);rw[JD];exact go 1 p4 u4 (.inl rfl) sJ
def uj (img:aj) (k:Int):Option jK:=match jt img k with
 |none=>none
 |some l=>iY l
def Zr5 (n:Nat) (img:aj) (k:Int) (st:St) (hl:img.length<1000000) (hn:3002<=n):
  Ok (λo=>∃s',aB st s'/\match uj img k with
   |none=>∃z,o=(.val [.agg [.int .i64 0,.int .i64 0,.int .i64 0,.int .i64 0,.slice z none 0],.bool false],s')
   |some x=>∃q,o=(.val [.agg (oA x 1 q),.bool true],s')/\Sl s' q (ints x.kids)) (run Bd n 294 [.str img,.int .i64 k] st):=by
 obtain⟨n,rfl⟩: ∃m,n=m+2:=⟨n-2,by omega⟩;rw[Ze,h.afO];unfold Sr nU pL Fp eI Bt aZ FC;simp only[bR,av,aq,ZL];refine Ok.call (Ft n img k st hl) ?_;rintro o ⟨s1,aH,ho⟩;unfold uj;cases nC:jt img k with
 |none=>
  rw[nC]at ho;simp only at ho;subst ho;refine⟨_,s1,rfl,?_⟩;simp only[Zg 1 0 none _ (.inr rfl),au,aq];rw[bn,ae,Zp];exact .mk ⟨_,Zr aH,0,rfl⟩
 |some l=>
  rw[nC]at ho;obtain⟨p,rfl,hf,qX⟩:=ho;refine⟨_,s1,rfl,?_⟩;simp only[aX,au,aq];rw[br,af];refine Ok.call (ZsP (n+1) p l s1 hf.1 qX (by omega)) ?_;rintro o ⟨s2,aU,ho⟩;cases hg:iY l with
  |none=>
   rw[hg]at ho;simp only at ho;subst ho;refine⟨_,s2,rfl,?_⟩;rw[dT];simp only[av,Zg 1 0 none _ (.inr rfl),au,aq];rw[Zp];exact .mk ⟨_,Zr (aH.trans aU),1,rfl⟩
  |some x=>
   rw[hg]at ho;obtain⟨q,rfl,hq⟩:=ho;refine⟨_,s2,rfl,?_⟩;rw[dT];unfold oA fk;simp only[nP,jG,av,aX,au,aq];rw[Zp];exact .mk ⟨_,Zr (aH.trans aU),q,rfl,hq.1.dQ _⟩
def jN (img:aj):Nat->ak->bh->Option (List bh×ak)
 |0,_,_=>some ([],[])
 |j+1,ks,e=>match jN img j ks e with
  |none=>none
  |some (es,bs)=>match uj img (ks.getD j 0)with
   |none=>none
   |some m=>bif decide (m.kids.length=j)then(match jN img j m.kids m.bJ with
    |none=>none
    |some (hZ,gP)=>bif ft e m.bJ then some (es++m.bJ::hZ,bs++ks.getD j 0::gP)else none)else none
def lB (img:aj) (d:Nat) (k:Int):Option (List bh×ak):=match uj img k with
 |none=>none
 |some m=>bif decide (m.kids.length=d)then(match jN img d m.kids m.bJ with
  |none=>none
  |some (es,bs)=>some (m.bJ::es,k::bs))else none
def TK (img:aj) (j:Nat) (ks:ak) (e:bh):jN img (j+1) ks e=(match jN img j ks e with
  |none=>none
  |some (es,bs)=>match lB img j (ks.getD j 0)with
   |none=>none
   |some (fe,ga)=>bif ft e (fe.headD ⟨0,0,0,0⟩)then some (es++fe,bs++ga)else none):=by
 conv=>lhs;unfold jN
 cases jN img j ks e with
 |none=>rfl
 |some q=>
  grind[lB]
def Znt {img:aj} {ks:ak} {e:bh} {i:Nat} (h:jN img i ks e=none): ∀d,i<=d->jN img d ks e=none
 |0,hd=>by
  grind
 |d+1,hd=>by
  by_cases hi:i=d+1
  .subst hi;exact h
  .rw[TK,Znt h d (by omega)]
def H0 {img:aj} : ∀(j:Nat) (ks:ak) (e:bh) (es:List bh) (bs:ak),jN img j ks e=some (es,bs)->es.length+1=2^j/\bs.length=es.length
 |0,_,_,_,_,h=>by cases h;exact⟨rfl,rfl⟩
 |j+1,ks,e,es,bs,h=>by
  unfold jN at h;cases h1:jN img j ks e with
  |none=>rw[h1]at h;cases h
  |some q=>
   obtain⟨yd,xW⟩:=q;obtain⟨a1,a2⟩:=H0 j ks e yd xW h1;rw[h1]at h;simp only at h;cases h2:uj img (ks.getD j 0)with
   |none=>rw[h2]at h;cases h
   |some m=>
    rw[h2]at h;simp only at h;cases h3:decide (m.kids.length=j)with
    |false=>rw[h3]at h;cases h
    |true=>
     rw[h3,ae]at h;cases h4:jN img j m.kids m.bJ with
     |none=>rw[h4]at h;cases h
     |some q=>
      obtain⟨Ai,wu⟩:=q;obtain⟨b1,b2⟩:=H0 j m.kids m.bJ Ai wu h4;rw[h4]at h;grind
def Dy {k:Int} {bs:ak} (h:lB img d k=some (es,bs)):es.length=2^d/\bs.length=es.length:=by
 unfold lB at h;cases h2:uj img k with
 |none=>rw[h2]at h;cases h
 |some m=>
  rw[h2]at h;simp only at h;cases h3:decide (m.kids.length=d)with
  |false=>rw[h3]at h;cases h
  |true=>
   rw[h3,ae]at h;cases h4:jN img d m.kids m.bJ with
   |none=>rw[h4]at h;cases h
   |some q=>
    obtain⟨Ai,wu⟩:=q;obtain⟨b1,b2⟩:=H0 d m.kids m.bJ Ai wu h4;rw[h4]at h;grind
def HK (st:St) (R:Option (List bh×ak)) (o:Out ah×St):Prop:=∃s',aB st s'/\match R with
 |none=>o=(.val [.slice 0 none 0,.slice 0 none 0,.bool false],s')
 |some (es,bs)=>∃p q,o=(.val [.slice 4 p es.length,.slice 1 q bs.length,.bool true],s')/\Sl s' p (bY es)/\Sl s' q (ints bs)/\(∀b∈aO q,st.length<=b)/\∀b∈aO p,st.length<=b
def M3 (l m:ak):ints (l++m)=ints l++ints m:=by simp[ints]
def bm.tK {a:ai} (h:bm s0 s a cs) {m:Nat} (hz:0<sz) (hn:cs.length=n*sz) (hd:ds.length=m*sz) (hl:n+m<=lim):
  ∃p s',bm s0 s' p (cs++ds)/\Fx (aO a) s s'/\(∀b∈aO p,b∈aO a\/s.length<=b)/\∀K:ai->M β,cm sz a n ds m lim K s=K p s':=by
 rcases Bg m with rfl|hm
 .rw[ux]at hd
  rw[zp.1 hd,gz];exact⟨a,s,h,⟨aQ _,λ_ _ _ e=>e⟩,λb hb=> .inl hb,λK=>rfl⟩
 .have hb:Nat.beq m 0=false:=by cases m with|zero=>cases hm|succ m=>rfl
  rcases h.2 with⟨rfl,rfl⟩|⟨i,rfl,hi,hs⟩
  .have h0:n=0:=by
    rcases Hz.1 (show n*sz=0 by simpa using hn.symm)with h|h
    .exact h
    .omega
   subst h0;refine⟨some (s.length,0),s++[some ⟨false,ds⟩],⟨h.1.trans (.new _ _),.inr ⟨s.length,rfl,h.1.len,by simp⟩⟩,⟨by simp,by grind⟩,λb hb=> .inr (by rw[cB.1 hb];exact aQ _),λK=>?_⟩;unfold cm;simp only[hb,gA hl,ae,af];rfl
  .have eC:s.il i=some cs:=by grind[St.il]
   refine⟨some (s.length,0),s.set i none++[some ⟨false,cs++ds⟩],⟨(tC h.1 hi none).trans (.new _ _),(by grind)⟩,⟨by simp,λb x hbn e=>?_⟩,λb hb=> .inr (by rw[cB.1 hb];exact aQ _),λK=>?_⟩
   .have hbi:i≠b:=λe=>hbn (by rw[<-e];exact cB.2 rfl)
    grind
   .unfold cm
    simp only[hb,gA hl,ae,af,eC];rw[eW,gA (by omega)];grind
def bm.yh {a:ai} (h:bm s0 s a cs) (k:Fx T s s') (hn: ∀b∈aO a,b∉T) (hp:aB s0 s'):bm s0 s' a cs:=by
 rcases h.2 with⟨rfl,rfl⟩|⟨i,rfl,hi,hs⟩
 .exact⟨hp,.inl ⟨rfl,rfl⟩⟩
 .exact⟨hp,.inr ⟨i,rfl,hi,k.2 i _ (hn i (cB.2 rfl)) hs⟩⟩
def bm.pE {a:ai} (h:bm s0 s a cs): ∀b∈aO a,b<s.length:=λb hb=>by
 rcases h.2 with⟨rfl,rfl⟩|⟨i,rfl,hi,hs⟩
 .cases hb
 .rw[cB.1 hb]
  grind
def bm.Jo {a:ai} (h:bm s0 s a cs): ∀b∈aO a,s0.length<=b:=λb hb=>by
 rcases h.2 with⟨rfl,rfl⟩|⟨i,rfl,hi,hs⟩
 .cases hb
 .rw[cB.1 hb]
  exact hi
def zX {a:ai} (h: ∀b∈aO a,b∉T):lG T a:=λb o e=>h b (by rw[e];exact cB.2 rfl)
def Sl.pE {a:ai} (h:Sl s a cs): ∀b∈aO a,b<s.length:=λb hb=>by
 cases a with
 |none=>cases hb
 |some x=>
  obtain⟨i,o⟩:=x;rw[cB.1 hb];exact h.lt
def ZrC (img:aj) (hl:img.length<1000000): ∀(d:Nat),d<=12->∀(n:Nat) (k:Int) (st:St),3100+d<=n->Ok (HK st (lB img d k)) (run Bd n 271 [.str img,.int .i64 k,.int .i64 (d:Int)] st):=by
 intro d;induction d using Nat.strongRecOn with
 |_ d ih=>
 intro hd n k st hn;obtain⟨n,rfl⟩: ∃m,n=m+1:=⟨n-1,by omega⟩;rw[Ze,h.afA];unfold Si iX Fp aA bV oe Zn FU sd bq eI sj Li zG Lb Bv;simp only[bR,av,aq,ZL];refine Ok.call (Zr5 n img k st hl (by omega)) ?_;rintro o ⟨s1,aH,ho⟩;obtain⟨R,hR⟩: ∃R,lB img d k=R:=⟨_,rfl⟩;rw[hR];have bad: ∀s',aB st s'->R=none->Ok (HK st R) ((bZ st.length [.slice 0 none 0,.slice 0 none 0,.bool false]:M ah) s'):=λs' hp hn=>by
  rw[hn,Zp];exact .mk ⟨_,Zr hp,rfl⟩
 unfold lB at hR;cases hN:uj img k with
 |none=>
  rw[hN]at ho hR;obtain⟨z,rfl⟩:=ho;refine⟨_,s1,rfl,?_⟩;rw[dT];simp only[av,Zg 1 z none _ (.inr rfl),au,aq];rw[Za,bn,ae];simp only[au,aq];rw[ae];exact bad s1 aH hR.symm
 |some m=>
  rw[hN]at ho hR;obtain⟨q,rfl,hq⟩:=ho;simp only at hR;refine⟨_,s1,rfl,?_⟩;rw[dT];unfold oA fk;simp only[nP,jG,av,aX,au,aq];rw[Za,br,af,nn m.kids.length d (d:Int) rfl];simp only[au,aq];by_cases Oi:m.kids.length=d
  .rw[ax Oi,ae]at hR
   rw[ax Oi,br,af,Zz,Zz];obtain⟨s2,mu⟩: ∃s2,s1++[some (⟨false,[.int .i64 m.bJ.slot,.int .i64 m.bJ.gen,.int .i64 m.bJ.key,.int .i64 m.bJ.value]⟩:bO)]=s2:=⟨_,rfl⟩;obtain⟨s3,wT⟩: ∃s3,s2++[some (⟨false,[.int .i64 k]⟩:bO)]=s3:=⟨_,rfl⟩;have aU:aB s1 s2:=by rw[<-mu];exact .new _ _
   have cu:aB s2 s3:=by rw[<-wT];exact .new _ _
   have sK:bm st s3 (some (s1.length,0)) (bY [m.bJ]):=⟨aH.trans (aU.trans cu),.inr ⟨s1.length,rfl,aH.len,cu.get (by rw[<-mu];simp[bY,fk])⟩⟩;have vv:bm st s3 (some (s2.length,0)) (ints [k]):=⟨aH.trans (aU.trans cu),.inr ⟨s2.length,rfl,by have:=aH.len;have:=aU.len;omega,by rw[<-wT];simp[ints]⟩⟩;rw[mu,wT];have dP:s1.length<s2.length:=by rw[<-mu];simp
   refine Ok.join λaI jU=>?_
   refine Zi _ (λc y t=>∃(i:Nat) (pe pb:ai) (es:List bh) (bs:ak),y=[.slice 4 pe (es.length+1),.slice 1 pb (bs.length+1),.int .i64 (i:Int)]/\i<=d/\d-i<=c/\jN img i m.kids m.bJ=some (es,bs)/\bm st t pe (bY (m.bJ::es))/\bm st t pb (ints (k::bs))/\(∀b∈aO pe,s1.length<=b/\b∉aO pb)/\(∀b∈aO pb,s1.length<=b)/\Sl t q (ints m.kids)/\s1.length<=t.length) ?_ d n _ _ ⟨0,some (s1.length,0),some (s2.length,0),[],[],rfl,cz _,by omega,rfl,sK,vv,λb hb=>⟨by rw[cB.1 hb];exact aQ _,by rw[cB.1 hb];intro e;have:=cB.1 e;omega⟩,λb hb=>by rw[cB.1 hb];omega,(hq.mono aU).mono cu,by have:=aU.len;have:=cu.len;omega⟩ (by omega);have AH:=hq.pE;rintro c y t ⟨i,pe,pb,es,bs,rfl,hi,hc,hT,sK,vv,OE,OD,Ke,dA⟩ rec aN;simp only[aX,av,aq];have hlen:=H0 i m.kids m.bJ es bs hT;have iP:2^i<=2^12:=nT (by decide) (by omega);by_cases aw:i<d
   .obtain⟨w,hw⟩: ∃w,m.kids.getD i 0=w:=⟨_,rfl⟩
    have rh:(ints m.kids)[i]? =some (.int .i64 w):=by rw[<-hw];exact zM
    obtain⟨i1,o1,rfl⟩:=Ke.cH (by rw[Zy];omega);rw[ax (show(i:Int)<(d:Int) by omega),ae,bd,Zb (Zj)];simp only[bp];rw[Ke.dJ rh];simp only[bg];have rr:=TK img i m.kids m.bJ;rw[hT,hw]at rr;simp only at rr;refine Ok.call (ih i aw (by omega) n w t (by omega)) ?_;rintro o ⟨t1,jz,ho⟩;have J5:=sK.mono jz;have XM:=vv.mono jz;have fail:jN img (i+1) m.kids m.bJ=none->Ok (HK st R) ((bZ st.length [.slice 0 none 0,.slice 0 none 0,.bool false]:M ah) t1):=λhf=>by
     refine bad t1 J5.1 ?_;rw[<-hR,Znt hf d (by omega)]
    cases hS:lB img i w with
    |none=>
     rw[hS]at ho rr;simp only at ho;subst ho;refine⟨_,t1,rfl,?_⟩;simp only[Zg 4 0 none _ (.inr rfl),Zg 1 0 none _ (.inr rfl),au,aq];rw[Za,bn,ae];simp only[au,aq];rw[ae];exact fail rr
    |some qq=>
     obtain⟨fe,ga⟩:=qq;rw[hS]at ho rr;obtain⟨px,py,rfl,Kb,XZ,X1,_⟩:=ho;refine⟨_,t1,rfl,?_⟩;have fY:=Dy hS;obtain⟨e0,AN,rfl⟩: ∃e0 AN,fe=e0::AN:=by
      cases fe with
      |nil=>have:=fY.1;rw[Be]at this;omega
      |cons a b=>exact⟨a,b,rfl⟩
     simp only[aX,au,aq];rw[Za,br,af];obtain⟨i4,o4,rfl⟩:=Kb.cH (by rw[Zt,cO];omega);rw[bd,Zb (show aR 0 (e0::AN).length=true from Zj (i:=0) (by simp)),Kb.yi (k:=0) (n:=4) (by rw[Zt,cO];omega)];show Ok _ (aD .i64 (fk e0) _ t1);unfold fk;simp only[av,aq];have Gy:=Q7 (n-1) m.bJ e0 t1;rw[show n-1+1=n by omega]at Gy;unfold fk at Gy;rw[Zk Gy];simp only[au,aq];simp only[List.headD_cons]at rr;cases hA:ft m.bJ e0 with
     |false=>
      rw[hA,af]at rr;rw[bn,ae];exact fail rr
     |true=>
      rw[hA,ae]at rr;rw[br,af];have r1: ∀K:ah->M ah,dy (some (i4,o4)) ((e0::AN).length*4) K t1=K (bY (e0::AN)) t1:=λK=>by
       have:=iR Kb K;rwa [Zt]at this
      rw[r1];obtain⟨p5,t5,qb,mV,D4,JE⟩:=J5.tK (β:=ah) (sz:=4) (n:=es.length+1) (m:=(e0::AN).length) (lim:=2199023255552) (ds:=bY (e0::AN)) (by omega) (by rw[Zt];rfl) (by rw[Zt]) (by omega);rw[JE];have uf:=jz.len;have XT:=sK.pE;have ah1:=vv.pE;have X0:Sl t5 py (ints ga):=XZ.fx mV (zX λb hb c9=>by have:=X1 b hb;have:=XT b c9;omega);have r2: ∀K:ah->M ah,dy py (ga.length*1) K t5=K (ints ga) t5:=λK=>by
       have:=iR X0 K;rwa [Zy,<-cR ga.length]at this
      rw[r2];have XN:bm st t5 pb (ints (k::bs)):=XM.yh mV (by grind) qb.1;obtain⟨p6,t6,mo,rf,yo,tW⟩:=XN.tK (β:=ah) (sz:=1) (n:=bs.length+1) (m:=ga.length) (lim:=8796093022208) (ds:=ints ga) (by omega) (by rw[Zy,cR];rfl) (by rw[Zy,cR]) (by omega);rw[tW];have XS: ∀b∈aO p5,b∉aO pb:=λb hb c9=>by
       grind
      have Ov:bm st t6 p5 (bY (m.bJ::es)++bY (e0::AN)):=qb.yh rf XS mo.1;rw[Zc];refine aN (d-(i+1)) _ _ (by omega) ⟨i+1,p5,p6,es++e0::AN,bs++ga,?_,by omega,aQ _,rr,?_,?_,λb hb=>⟨?_,λc9=>?_⟩,λb hb=>?_,?_,by have:=mV.1;have:=rf.1;omega⟩
      .grind
      .rw[<-zL]at Ov;exact Ov
      .rw[<-M3]at mo;exact mo
      .rcases D4 b hb with h1|h1
       .exact(OE b h1).1
       .omega
      .have h5l:=qb.pE b hb
       grind
      .rcases yo b hb with h1|h1
       .exact OD b h1
       .have:=mV.1;omega
      .exact((Ke.mono jz).fx mV (zX λb hb c9=>by have:=AH b hb;have:=(OE b c9).1;omega)).fx rf (zX λb hb c9=>by have:=AH b hb;have:=OD b c9;omega)
   .rw[aF (show ¬(i:Int)<(d:Int) by omega),af,jU]
    have hid:i=d:=by omega
    subst hid;rw[hT]at hR;simp only[aX,aq,Zp];refine .mk ⟨_,Zr sK.1,?_⟩;rw[<-hR];exact⟨pe,pb,rfl,sK.sl.dQ _,vv.sl.dQ _,vv.Jo,sK.Jo⟩
  .rw[aF Oi,af]at hR
   rw[aF Oi,bn,ae];exact bad s1 aH hR.symm
def lJ (img:aj):Nat->ak->List bh->ak->Option (List bh×ak)
 |_,[],es,bs=>some (es,bs)
 |i,k::r,es,bs=>bif k==0 then lJ img (i+1) r es bs else match lB img i k with
  |none=>none
  |some (fe,ga)=>lJ img (i+1) r (es++fe) (bs++ga)
def uV (img:aj) (r:ak):Option (List bh×ak):=lJ img 0 r [] []
def ZoW (n:Nat) (img:aj) (r:ak) (st:St) (hl:img.length<1000000) (hr:r.length=12) (hn:3200<=n):
  Ok (HK st (uV img r)) (run Bd n 246 [.str img,.agg (ints r)] st):=by
 obtain⟨n,rfl⟩: ∃m,n=m+1:=⟨n-1,by omega⟩;rw[Ze,h.afd];unfold Rj bV oe FU zG sj;simp only[bR];rw[dT,bI (by rw[Zy];exact hr)];simp only[aq,ZL];rw[bI (by rw[Zy];exact hr)];obtain⟨R,hR⟩: ∃R,uV img r=R:=⟨_,rfl⟩;rw[hR];have bad: ∀s',aB st s'->R=none->Ok (HK st R) ((bZ st.length [.slice 0 none 0,.slice 0 none 0,.bool false]:M ah) s'):=λs' hp hn=>by
  rw[hn,Zp];exact .mk ⟨_,Zr hp,rfl⟩
 refine Ok.join λaz nA=>?_
 refine Zi _ (λc y t=>∃(i z1 z2:Nat) (pe pb:ai) (es:List bh) (bs:ak),y=[.slice z1 pe es.length,.slice z2 pb bs.length,.int .i64 (i:Int)]/\(z1=4\/pe=none)/\(z2=1\/pb=none)/\i<=12/\12-i<=c/\R=lJ img i (r.drop i) es bs/\bm st t pe (bY es)/\bm st t pb (ints bs)/\(∀b∈aO pe,b∉aO pb)/\es.length+1<=2^i/\bs.length=es.length) ?_ 12 n _ _ ⟨0,0,0,none,none,[],[],rfl,.inr rfl,.inr rfl,by omega,by omega,by rw[dK];exact hR.symm,.nil (.refl _),.nil (.refl _),λb hb=>(by cases hb),by simp,rfl⟩ (by omega);rintro c y t ⟨i,z1,z2,pe,pb,es,bs,rfl,kP,gS,hi,hc,wH,sK,vv,OE,hel,jl⟩ rec aN;simp only[Zg 4 z1 pe _ kP,Zg 1 z2 pb _ gS,av,aq];have iP:2^i<=2^12:=nT (by decide) (by omega);by_cases aw:i<12
 .have fW:=I3 (l:=r) (i:=i)
  obtain⟨k,hk⟩: ∃k,r.getD i 0=k:=⟨_,rfl⟩;rw[hk]at fW;have vo:(ints r)[i]? =some (.int .i64 k):=by rw[<-hk];exact zM
  rw[fW]at wH;rw[ax (show(i:Int)<12 by omega),ae,Za,Zb (show aR (i:Int) 12=true from Zj aw)];simp only[bp,cR];rw[hJ vo];simp only[bg];by_cases lM:k=0
  .have hR0:R=lJ img (i+1) (r.drop (i+1)) es bs:=by
    rw[wH]
    conv=>lhs;unfold lJ
    rw[lM];rfl
   rw[lM,xq,ae];simp only[aX,aq];rw[Zc];exact aN (12-(i+1)) _ _ (by omega) ⟨i+1,4,1,pe,pb,es,bs,rfl,.inl rfl,.inl rfl,by omega,aQ _,hR0,sK,vv,OE,by omega,jl⟩
  .have Aq:R=(match lB img i k with|none=>none|some (fe,ga)=>lJ img (i+1) (r.drop (i+1)) (es++fe) (bs++ga)):=by
    rw[wH]
    conv=>lhs;unfold lJ
    rw[eG.2 lM];rfl
   rw[eG.2 lM,af,Zb (show aR (i:Int) 12=true from Zj aw),hJ vo];simp only[bg];refine Ok.call (ZrC img hl i (by omega) n k t (by omega)) ?_;rintro o ⟨t1,jz,ho⟩;have J5:=sK.mono jz;have XM:=vv.mono jz;cases hS:lB img i k with
   |none=>
    rw[hS]at ho Aq;simp only at ho;subst ho;refine⟨_,t1,rfl,?_⟩;simp only[Zg 4 0 none _ (.inr rfl),Zg 1 0 none _ (.inr rfl),au,aq];rw[bn,ae];exact bad t1 J5.1 Aq
   |some qq=>
    obtain⟨fe,ga⟩:=qq;rw[hS]at ho Aq;obtain⟨px,py,rfl,Kb,XZ,X1,_⟩:=ho;refine⟨_,t1,rfl,?_⟩;have fY:=Dy hS;simp only[aX,au,aq];rw[br,af];have r1: ∀K:ah->M ah,dy px (fe.length*4) K t1=K (bY fe) t1:=λK=>by
     have:=iR Kb K;rwa [Zt]at this
    rw[r1];obtain⟨p5,t5,qb,mV,D4,JE⟩:=J5.tK (β:=ah) (sz:=4) (n:=es.length) (m:=fe.length) (lim:=2199023255552) (ds:=bY fe) (by omega) (by rw[Zt]) (by rw[Zt]) (by omega);rw[JE];have uf:=jz.len;have XT:=sK.pE;have ah1:=vv.pE;have X0:Sl t5 py (ints ga):=XZ.fx mV (zX λb hb c9=>by have:=X1 b hb;have:=XT b c9;omega);have r2: ∀K:ah->M ah,dy py ga.length K t5=K (ints ga) t5:=λK=>by
     have:=iR X0 K;rwa [Zy]at this
    rw[r2];have XN:bm st t5 pb (ints bs):=XM.yh mV (by grind) qb.1;obtain⟨p6,t6,mo,rf,yo,tW⟩:=XN.tK (β:=ah) (sz:=1) (n:=bs.length) (m:=ga.length) (lim:=8796093022208) (ds:=ints ga) (by omega) (by rw[Zy,cR]) (by rw[Zy,cR]) (by omega);rw[tW];have XS: ∀b∈aO p5,b∉aO pb:=λb hb c9=>by
     grind
    have Ov:bm st t6 p5 (bY es++bY fe):=qb.yh rf XS mo.1;rw[Zc];refine aN (12-(i+1)) _ _ (by omega) ⟨i+1,4,1,p5,p6,es++fe,bs++ga,?_,.inl rfl,.inl rfl,by omega,aQ _,Aq,?_,?_,λb hb c9=>?_,?_,?_⟩
    .rw[bB,bB]
     rfl
    .rw[zL];exact Ov
    .rw[M3];exact mo
    .have h5l:=qb.pE b hb
     grind
    .rw[bB];omega
    grind
 .rw[aF (show ¬(i:Int)<12 by omega),af,nA]
  rw[lU (by omega)]at wH;simp only[aX,aq,Zp];refine .mk ⟨_,Zr sK.1,?_⟩;rw[wH];exact⟨pe,pb,rfl,sK.sl.dQ _,vv.sl.dQ _,vv.Jo,sK.Jo⟩
def rC (e:bh) (out:List bh):Nat->Nat
 |0=>0
 |k+1=>bif ft e (out.getD k ⟨0,0,0,0⟩)then rC e out k else k+1
def qd (out:List bh) (e:bh):List bh:=out.take (rC e out out.length)++e::out.drop (rC e out out.length)
def Z8 (l:List bh):List bh:=l.foldl qd []
def Zuz (e:bh) (out:List bh): ∀k,rC e out k<=k
 |0=>aQ _
 |k+1=>by
  unfold rC;cases ft e (out.getD k ⟨0,0,0,0⟩)with
  |true=>exact Nat.le_succ_of_le (Zuz e out k)
  |false=>exact aQ _
def UR (out:List bh) (e:bh):(qd out e).length=out.length+1:=by
 grind[qd]
def Zxf (e:bh):bY [e]=fk e:=by unfold bY;simp
def ZvU (l:List bh) (k:Nat):bY (l.take k)=(bY l).take (k*4):=by
 rcases Nat.le_total k l.length with h|h
 .have h2:=zL (l.take k) (l.drop k)
  rw[rQ]at h2;have h3:(bY (l.take k)).length=k*4:=by rw[Zt,cX];omega
  rw[h2,<-h3];simp
 .rw[dG h,dG (by rw[Zt];omega)]
def ZvP (l:List bh) (k:Nat):bY (l.drop k)=(bY l).drop (k*4):=by
 rcases Nat.le_total k l.length with h|h
 .have h2:=zL (l.take k) (l.drop k)
  rw[rQ]at h2;have h3:(bY (l.take k)).length=k*4:=by rw[Zt,cX];omega
  rw[h2,<-h3];simp
 .rw[lU h,lU (by rw[Zt];omega)]
  rfl
def ZoN (n:Nat) (l:List bh) (z:Nat) (p:ai) (st:St) (hz:z=4\/p=none) (hs:Sl st p (bY l)) (hl:l.length<100000) (hn:l.length+10<=n):
  Ok (λo=>∃q s',o=(.val [.slice 4 q (Z8 l).length],s')/\aB st s'/\Sl s' q (bY (Z8 l))/\∀b∈aO q,st.length<=b) (run Bd n 247 [.slice z p l.length] st):=by
 obtain⟨n,rfl⟩: ∃m,n=m+2:=⟨n-2,by omega⟩;rw[Ze,h.afe];unfold Re Dh cP oL N_ sd cM aA bq rW Li Bv Lb iw;simp only[Zg 4 z p _ hz,aq,ZL];refine Ok.join λaz nA=>?_
 refine Zi _ (λc y t=>∃(i z1:Nat) (po:ai) (out:List bh),y=[.slice z1 po out.length,.int .i64 (i:Int)]/\(z1=4\/po=none)/\i<=l.length/\l.length-i<=c/\aB st t/\Sl t po (bY out)/\out=(l.take i).foldl qd []/\out.length=i/\∀b∈aO po,st.length<=b) ?_ l.length (n+1) _ _ ⟨0,0,none,[],rfl,.inr rfl,cz _,by omega,.refl _,Sl.nil _,rfl,rfl,λb hb=>by cases hb⟩ (by omega);rintro c y t ⟨i,z1,po,out,rfl,kP,hi,hc,jz,vA,Em,ig,ah3⟩ rec aN;simp only[Zg 4 z1 po _ kP,av,aq];by_cases aw:i<l.length
 .obtain⟨i1,o1,rfl⟩:=hs.cH (by rw[Zt];omega)
  have da:l[i]? =some l[i]:=cq aw;have fZ:l.take (i+1)=l.take i++[l[i]]:=lV aw;generalize l[i]=e at da fZ;have cg:=hs.mono jz;have lde: ∀(K:ah->M ah) (u:St),Sl u (some (i1,o1)) (bY l)->bS i1 (i*4+o1) 4 K u=K (fk e) u:=λK u hu=>by
   rw[hu.yi (k:=i*4) (n:=4) (by rw[Zt];omega),Dw da]
  have ahU:(l.take (i+1)).foldl qd []=qd out e:=by rw[fZ,zn,<-Em];rfl
  rw[ax (show(i:Int)<(l.length:Int) by omega),ae];refine Ok.join λaI jU=>?_
  refine Ok.join λaW kK=>?_
  refine Zi _ (λc y u=>∃k:Nat,y=[.int .i64 (k:Int)]/\k<=out.length/\k<=c/\u=t/\rC e out out.length=rC e out k) ?_ out.length (n+1) _ _ (by grind) (by omega);rintro c2 y2 u ⟨k,rfl,hk,kJ,rfl,wR⟩ dw j3;simp only[av,aq];have fin:rC e out out.length=k->Ok (λo=>∃q s',o=(.val [.slice 4 q (Z8 l).length],s')/\aB st s'/\Sl s' q (bY (Z8 l))/\∀b∈aO q,st.length<=b) (aW [.int .i64 (k:Int)] u):=λhp=>by
   subst kK;simp only[av,aq,bp];rw[Zb (by rw[aY,bu,bu];omega)];have h1:=vA.lA (k*4);have Am:((bY out).take (k*4)).length=k*4:=by rw[cX,Zt];omega
   have e1: ∀K:ah->M ah,dy po (k*4) K u=K ((bY out).take (k*4)) u:=λK=>by
    have:=iR h1 K;rwa [Am]at this
   rw[e1];obtain⟨r1,s1,rp,Xa⟩:=(bm.nil (aB.refl u)).Ny (β:=ah) (sz:=4) (n:=0) (m:=k) (lim:=2199023255552) (ds:=(bY out).take (k*4)) (by omega) rfl Am (by omega);rw[Xa,jG]at*
   rw[bd,Zb (Zj aw),lde _ s1 (cg.mono rp.1)];unfold fk;simp only[av,aq];obtain⟨r2,s2,du,vj⟩:=rp.push (β:=ah) (sz:=4) (n:=0+k) (lim:=2199023255552) [.int .i64 e.slot,.int .i64 e.gen,.int .i64 e.key,.int .i64 e.value] (by omega) (by rw[Am];omega) rfl (by omega);rw[vj];rw[Zb (by rw[aY,bu,bu];omega)];have h2:=(vA.mono du.1).cU (k:=k*4) (by rw[Zt];omega);have An:((bY out).drop (k*4)).length=(out.length-k)*4:=by rw[fa,Zt];omega
   have e2: ∀K:ah->M ah,dy (cU true po (k*4)) ((out.length-k)*4) K s2=K ((bY out).drop (k*4)) s2:=λK=>by
    have:=iR h2 K;rwa [An]at this
   rw[e2];obtain⟨r3,s3,nD,Xb⟩:=du.Ny (β:=ah) (sz:=4) (n:=0+k+1) (m:=out.length-k) (lim:=2199023255552) (ds:=(bY out).drop (k*4)) (by omega) (by rw[bB,Am];simp;omega) An (by omega);rw[Xb,jU];simp only[aX,aq];have gM:(bY out).take (k*4)++[.int .i64 e.slot,.int .i64 e.gen,.int .i64 e.key,.int .i64 e.value]++(bY out).drop (k*4)=bY (qd out e):=by
    unfold qd;rw[hp,zL,ZvU,show e::out.drop k=[e]++out.drop k from rfl,zL,Zxf,ZvP,fI];rfl
   rw[gM]at nD;rw[Zc];refine aN (l.length-(i+1)) _ _ (by omega) ⟨i+1,4,r3,qd out e,?_,.inl rfl,by omega,aQ _,jz.trans nD.1,nD.sl,ahU.symm,by rw[UR,ig],λb hb=>gZ jz.len (nD.Jo b hb)⟩;rw[UR,show 0+k+1+(out.length-k)=out.length+1 by omega];rfl
  rw[Za];cases k with
  |zero=>
   rw[aF (by omega),af];simp only[au,aq,af];exact fin wR
  |succ k=>
   rw[ax (show((k+1:Nat):Int)>0 by omega),ae,bd,Zb (Zj aw)];simp only[bp];rw[lde _ u cg];unfold fk;simp only[av,aq];obtain⟨i5,o5,rfl⟩:=vA.cH (by rw[Zt];omega);have aP:out[k]? =some (out.getD k ⟨0,0,0,0⟩):=by
    rw[dW,cq (show k<out.length by omega)];rfl
   have jZ:rC e out (k+1)=bif ft e (out.getD k ⟨0,0,0,0⟩)then rC e out k else k+1:=rfl;generalize out.getD k ⟨0,0,0,0⟩=f at aP jZ;have Ku:ar (((k+1:Nat):Int)-1)=((k:Nat):Int):=by rw[Zc];omega
   rw[Ku,bd,Zb (Zj)];simp only[bp];rw[vA.yi (k:=k*4) (n:=4) (by rw[Zt];omega),Dw aP];unfold fk;simp only[av,aq];have Gy:=Q7 n e f u;unfold fk at Gy;rw[Zk Gy];simp only[au,aq];grind
 .rw[aF (show ¬(i:Int)<(l.length:Int) by omega),af,nA]
  simp only[aX,aq,Zp];rw[dG (by omega)]at Em;have G7:out=Z8 l:=Em;rw[G7]at vA⊢;exact .mk ⟨po,_,rfl,Zr jz,vA.dQ _,ah3⟩
def um (l:List ZH):ah:=(l.map Z0).flatten
def HI (l:List ZH):Prop:=∀x∈l,x.dz.length=12/\x.name.length<=28
def BA {x:ZH} (h:x.dz.length=12):(Z0 x).length=14:=by
 simp[Z0,cO,Zy,h]
def IT: ∀ {l:List ZH},HI l->(um l).length=l.length*14
 |[],_=>rfl
 |x::l,h=>by
  have h1:=BA (h x uq).1;have h2:=IT (l:=l) λy hy=>h y (zs _ hy)
  show(Z0 x++um l).length=_;rw[bB,h1,h2,cO];omega
def M5: ∀ {l:List ZH},HI l->∀ {j:Nat} {x:ZH},l[j]? =some x->∀k,k<14->(um l)[j*14+k]? =(Z0 x)[k]?
 |[],_,_,_,h,_,_=>by cases h
 |y::l,hq,j,x,h,k,hk=>by
  have h1:=BA (hq y uq).1;show(Z0 y++um l)[j*14+k]? =_;cases j with
  |zero=>
   grind
  |succ j=>
   rw[lE (by omega),h1,show(j+1)*14+k-14=j*14+k by omega];exact M5 (λz hz=>hq z (zs _ hz)) (by simpa using h) k hk
def Zyi (l:List ZH) (x:ZH):um (l++[x])=um l++Z0 x:=by unfold um;simp
def w9 (qs:List ZH) (q:ZH):Bool:=match qs.getLast? with
 |none=>true
 |some p=>decide (cmpL (dB p.name) (dB q.name)<0)
def mE (img:aj):List ZH->ak->Option (List ZH)
 |qs,[]=>some qs
 |qs,k::r=>match jt img k with
  |none=>none
  |some c=>match ZJ c with
   |none=>none
   |some q=>bif w9 qs q then mE img (qs++[q]) r else none
def vG (img:aj) (dir:Int):Option (List ZH×ak):=if dir=0 then some ([],[])else match jt img dir with
 |none=>none
 |some b=>match lh b with
  |none=>none
  |some l=>match mE img [] l with
   |none=>none
   |some qs=>some (qs,dir::l)
def LD (st:St) (R:Option (List ZH×ak)) (o:Out ah×St):Prop:=∃s',aB st s'/\match R with
 |none=>o=(.val [.slice 0 none 0,.slice 0 none 0,.bool false],s')
 |some (qs,bs)=>∃z p z2 q,o=(.val [.slice z p qs.length,.slice z2 q bs.length,.bool true],s')/\(z=14\/p=none)/\(z2=1\/q=none)/\Sl s' p (um qs)/\Sl s' q (ints bs)/\HI qs/\qs.length<=16/\bs.length<=17
def ZrU (n:Nat) (img:aj) (dir:Int) (st:St) (hl:img.length<1000000) (hn:3100<=n):
  Ok (LD st (vG img dir)) (run Bd n 245 [.str img,.int .i64 dir] st):=by
 obtain⟨n,rfl⟩: ∃m,n=m+2:=⟨n-2,by omega⟩;rw[Ze,h.afc];unfold SD nU pL cP Zn jg aA cw sj eI aZ Li Lb iw;simp only[bR,av,aq,ZL];obtain⟨R,hR⟩: ∃R,vG img dir=R:=⟨_,rfl⟩;rw[hR];have bad: ∀s',aB st s'->R=none->Ok (LD st R) ((bZ st.length [.slice 0 none 0,.slice 0 none 0,.bool false]:M ah) s'):=λs' hp hn=>by
  rw[hn,Zp];exact .mk ⟨_,Zr hp,rfl⟩
 unfold vG at hR;by_cases h0:dir=0
 .rw[bE h0]at hR
  rw[h0,xq,ae,Zp];refine .mk ⟨_,Zr (.refl st),?_⟩;rw[<-hR];exact⟨0,none,0,none,rfl,.inr rfl,.inr rfl,Sl.nil _,Sl.nil _,λx hx=>(by cases hx),by simp,by simp⟩
 rw[bj h0]at hR;rw[eG.2 h0,af];refine Ok.call (Ft n img dir st hl) ?_;rintro o ⟨s1,aH,ho⟩;cases nC:jt img dir with
 |none=>
  rw[nC]at ho hR;simp only at ho;subst ho;refine⟨_,s1,rfl,?_⟩;simp only[Zg 1 0 none _ (.inr rfl),au,aq];rw[bn,ae];exact bad s1 aH hR.symm
 |some b=>
 rw[nC]at ho hR;obtain⟨p,rfl,hf,qX⟩:=ho;simp only at hR;refine⟨_,s1,rfl,?_⟩;simp only[aX,au,aq];rw[br,af];refine Ok.call (Zpz (n+1) p b s1 hf.1 qX (by omega)) ?_;rintro o ⟨s2,aU,ho⟩;have iP:=aH.trans aU;cases hg:lh b with
 |none=>
  rw[hg]at ho hR;simp only at ho;subst ho;refine⟨_,s2,rfl,?_⟩;simp only[Zg 1 0 none _ (.inr rfl),au,aq];rw[bn,ae];exact bad s2 iP hR.symm
 |some l=>
 rw[hg]at ho hR;obtain⟨pl,rfl,dA,gp⟩:=ho;simp only at hR;refine⟨_,s2,rfl,?_⟩;simp only[aX,au,aq];rw[br,af];refine Ok.join λaz nA=>?_
 have ah2:=dA.pE;refine Zi _ (λc y t=>∃(i z:Nat) (pq:ai) (qs:List ZH),y=[.slice z pq qs.length,.int .i64 (i:Int)]/\(z=14\/pq=none)/\i<=l.length/\l.length-i<=c/\bm st t pq (um qs)/\HI qs/\qs.length=i/\mE img [] l=mE img qs (l.drop i)/\Sl t pl (ints l)/\(∀b∈aO pq,s2.length<=b)/\s2.length<=t.length) ?_ l.length (n+1) _ _ ⟨0,0,none,[],rfl,.inr rfl,cz _,by omega,.nil iP,λx hx=>(by cases hx),rfl,by rw[dK],dA,λb hb=>(by cases hb),aQ _⟩ (by omega);rintro c y t ⟨i,z,pq,qs,rfl,hz,hi,hc,gq,vg,AH,Kd,OT,hpq,Kl⟩ rec aN;simp only[Zg 14 z pq _ hz,av,aq];by_cases aw:i<l.length
 .have fW:=I3 (l:=l) (i:=i) aw
  obtain⟨k,hk⟩: ∃k,l.getD i 0=k:=⟨_,rfl⟩;rw[hk]at fW;have vo:(ints l)[i]? =some (.int .i64 k):=by rw[<-hk];exact zM aw
  obtain⟨i1,o1,rfl⟩:=OT.cH (by rw[Zy];omega);rw[ax (show(i:Int)<(l.length:Int) by omega),ae,bd,Zb (Zj aw)];simp only[bp];rw[OT.dJ vo];simp only[bg];rw[fW]at Kd;have fail: ∀u,aB st u->mE img qs (k::l.drop (i+1))=none->Ok (LD st R) ((bZ st.length [.slice 0 none 0,.slice 0 none 0,.bool false]:M ah) u):=λu hu hf=>by
   refine bad u hu ?_;rw[Kd,hf]at hR;exact hR.symm
  refine Ok.call (Ft n img k t hl) ?_;rintro o ⟨t1,jz,ho⟩;have GX:=gq.mono jz;cases JQ:jt img k with
  |none=>
   rw[JQ]at ho;simp only at ho;subst ho;refine⟨_,t1,rfl,?_⟩;simp only[Zg 1 0 none _ (.inr rfl),au,aq];rw[bn,ae];exact fail t1 GX.1 (by unfold mE;rw[JQ])
  |some cb=>
   rw[JQ]at ho;obtain⟨pc,rfl,Ob,agF⟩:=ho;refine⟨_,t1,rfl,?_⟩;simp only[aX,au,aq];rw[br,af];refine Ok.call (Zsm (n+1) pc cb t1 Ob.1 agF (by omega)) ?_;rintro o ⟨t2,XW,ho⟩;have rq:=GX.mono XW;cases Od:ZJ cb with
   |none=>
    rw[Od]at ho;simp only at ho;subst ho;refine⟨_,t2,rfl,?_⟩;rw[dT];have Gm:(ints DL.dz).length=12:=rfl;unfold Z0;simp only[bR,av];rw[bI Gm];simp only[au,aq];rw[bI (by rw[cO,cO,Gm]),Za,bn,ae];simp only[au,aq];rw[ae];exact fail t2 rq.1 (by unfold mE;rw[JQ];simp only;rw[Od])
   |some q=>
    rw[Od]at ho;obtain⟨rfl,yC⟩:=ho;have OL:q.name.length<=28:=by have:=(RQ Od).1;omega
    refine⟨_,t2,rfl,?_⟩;have nx:Z0 q=DV.str q.name::DV.int .i64 (q.mask:Int)::ints q.dz:=rfl;rw[dT,nx];simp only[bR,av];have ahi:(ints q.dz).length=12:=by rw[Zy];exact yC
    rw[bI ahi];simp only[au,aq];rw[<-nx,bI (BA yC)];have X2:mE img qs (k::l.drop (i+1))=bif w9 qs q then mE img (qs++[q]) (l.drop (i+1))else none:=by
     conv=>lhs;unfold mE
     rw[JQ];grind
    have go: ∀u,aB t2 u->w9 qs q=true->Ok (LD st R) ((cd (Z0 q) λi3=>bS i3 0 14 λcC=>cm 14 pq qs.length cC 1 586406201480 λp1=>rec [.slice 14 p1 (qs.length+1),.int .i64 (ar ((i:Int)+1))]) u):=λu hu XH=>by
     rw[XH,ae]at X2;have ahY:=rq.mono hu;have ij:aB u (u++[some ⟨false,Z0 q⟩]):= .new _ _;rw[Zz,jL (f:=false) (all:=Z0 q) (by simp) (by rw[BA yC];omega),dK,dG (by rw[BA yC];omega)];obtain⟨p6,u6,mo,rf,yo,tW⟩:=(ahY.mono ij).tK (β:=ah) (sz:=14) (n:=qs.length) (m:=1) (lim:=586406201480) (ds:=Z0 q) (by omega) (IT vg) (by rw[BA yC]) (by omega);rw[tW,Zc];have hlen:=((jz.trans XW).trans (hu.trans ij)).len;refine aN (l.length-(i+1)) _ _ (by omega) ⟨i+1,14,p6,qs++[q],by rw[bB,iK];rfl,.inl rfl,by omega,aQ _,by rw[Zyi];exact mo,λx hx=>?_,by rw[bB,iK,AH],by rw[Kd,X2],?_,?_,by have:=rf.1;omega⟩
     .rcases gx.1 hx with hx|hx
      .exact vg x hx
      grind
     .exact(OT.mono ((jz.trans XW).trans (hu.trans ij))).fx rf (zX λb hb c9=>by have:=ah2 b hb;have:=hpq b c9;omega)
     grind
    rw[Za,br,af,Za];by_cases vp:i=0
    .have aib:qs=[]:=by grind
     rw[aF (show ¬(i:Int)>0 by omega),af];simp only[au,aq];rw[af,bI (BA yC)];exact go t2 (.refl _) (by rw[aib];rfl)
    .have hx:qs[i-1]? =some (qs[i-1]'(by omega)):=by grind
     have JO:qs.getLast?=qs[i-1]? :=by rw[List.getLast?_eq_getElem?,AH]
     have agE:=vg _ (kz (show i-1<qs.length by omega));generalize qs[i-1]'(by omega)=pv at hx agE;obtain⟨i5,o5,rfl⟩:=rq.sl.cH (by rw[IT vg];omega);have cN:(um qs)[(i-1)*14]? =some (.str pv.name):=by
      have:=M5 vg hx 0 (by omega);rw[gV]at this;rw[this];rfl
     rw[ax (show(i:Int)>0 by omega),ae,bd,Zc,show(i:Int)-1=((i-1:Nat):Int) by omega,Zb (Zj)];simp only[bp];rw[rq.sl.get cN];simp only[zB];refine Ok.cv (ZiB (n+1) pv.name q.name (by omega) (by omega) (by omega) (by omega) t2) λt3 ah6=>?_
     simp only[av,au,aq];have XH:w9 qs q=decide (cmpL (dB pv.name) (dB q.name)<0):=by
      unfold w9;rw[JO,hx]
     by_cases N7:cmpL (dB pv.name) (dB q.name)>=0
     .rw[ax N7,ae]
      refine fail t3 (rq.mono ah6).1 ?_;rw[X2,XH,aF (by omega)];rfl
     .rw[aF N7,af,bI (BA yC)]
      grind
 .rw[aF (show ¬(i:Int)<(l.length:Int) by omega),af,nA]
  rw[lU (by omega)]at Kd;rw[Kd]at hR;simp only[aX,aq];rw[Zz];have ij:aB t (t++[some ⟨false,[.int .i64 dir]⟩]):= .new _ _;have ahX:=gq.mono ij;have r1: ∀K:ah->M ah,dy pl (l.length*1) K (t++[some ⟨false,[.int .i64 dir]⟩])=K (ints l) (t++[some ⟨false,[.int .i64 dir]⟩]):=λK=>by
   have:=iR (OT.mono ij) K;rwa [Zy,<-cR l.length]at this
  rw[r1];have hod:bm st (t++[some (⟨false,[.int .i64 dir]⟩:bO)]) (some (t.length,0)) (ints [dir]):=⟨gq.1.trans ij,.inr ⟨t.length,rfl,gq.1.len,by simp[ints]⟩⟩;obtain⟨p6,u6,mo,rf,yo,tW⟩:=hod.tK (β:=ah) (sz:=1) (n:=1) (m:=l.length) (lim:=8796093022208) (ds:=ints l) (by omega) rfl (by rw[Zy,cR]) (by omega);have aia:=gq.pE;have ahW:bm st u6 pq (um qs):=ahX.yh rf (λb hb c9=>by have:=aia b hb;have:=cB.1 c9;omega) mo.1;rw[tW,Zp];refine .mk ⟨_,Zr mo.1,?_⟩;rw[<-hR];refine⟨14,pq,1,p6,?_,.inl rfl,.inl rfl,ahW.sl.dQ _,?_,vg,by omega,by simp;omega⟩
  .rw[cO,tk 1 l.length]
  .have:ints (dir::l)=ints [dir]++ints l:=rfl
   rw[this];exact mo.sl.dQ _
def lK (img:aj) (top:Int) (u:Nat) (g:Int):Nat->Nat->List bw->Option (List bw)
 |0,_,l=>some l
 |c+1,i,l=>match me img top i with
  |none=>none
  |some s=>bif decide (u<=i)then(bif nX s then lK img top u g c (i+1) l else none)else(bif decide (s.gen<1)||decide (s.gen>g)then none else lK img top u g c (i+1) (l++[s]))
def qH (img:aj) (x:cy):Option (List bw×ak):=match xS img x.cc with
 |none=>none
 |some pg=>bif decide (pg.length=(x.used.toNat+6)/7+oW x.used.toNat)then(match lK img x.cc x.used.toNat x.g (7*((x.used.toNat+6)/7)) 0 []with
  |none=>none
  |some l=>some (l,pg))else none
def PZ (st:St) (R:Option (List bw×ak)) (o:Out ah×St):Prop:=∃s',aB st s'/\match R with
 |none=>o=(.val [.slice 0 none 0,.slice 0 none 0,.bool false],s')
 |some (l,pg)=>∃p q,o=(.val [.slice 3 p l.length,.slice 1 q pg.length,.bool true],s')/\Sl s' p (bT l)/\Sl s' q (ints pg)
def ZsA {a:Nat} (h:a<=1792):oW a<=17:=by
 grind[oW]
def ZqF (n:Nat) (img:aj) (x:cy) (pc:ai) (st:St) (hl:img.length<1000000) (hx:uH x) (hn:4000<=n):
  Ok (PZ st (qH img x)) (run Bd n 243 [.str img,.agg (dj x pc)] st):=by
 obtain⟨n,rfl⟩: ∃m,n=m+1:=⟨n-1,by omega⟩;rw[Ze,h.afa];unfold Rp LJ pL aA cP cw qI jg lW eI sj Li zG rV Lb iw;simp only[bR];rw[dT];unfold dj;simp only[av,aX,aq,ZL];obtain⟨g1,g2,g3,g4,_,_⟩:=Z4 hx.g;have ug:=hx.u0;have vB:=hx.u1;obtain⟨u,hu⟩: ∃u:Nat,x.used=(u:Int):=⟨x.used.toNat,by omega⟩;have Ye:x.used.toNat=u:=by omega
 have AJ:u<=1792:=by omega
 obtain⟨R,hR⟩: ∃R,qH img x=R:=⟨_,rfl⟩;rw[hR,hu];have bad: ∀s',aB st s'->R=none->Ok (PZ st R) ((bZ st.length [.slice 0 none 0,.slice 0 none 0,.bool false]:M ah) s'):=λs' hp hn=>by
  rw[hn,Zp];exact .mk ⟨_,Zr hp,rfl⟩
 unfold qH at hR;rw[Ye]at hR;refine Ok.call (ZpV n img x.cc st hl (by omega)) ?_;rintro o ⟨s1,aH,ho⟩;have lv: ∀t,Ok (λo=>o=(.val [.int .i64 (((u+6)/7:Nat):Int)],t)) (run Bd n 266 [.int .i64 (u:Int)] t):=λt=>ZjA n u (by omega) t
 cases hP:xS img x.cc with
 |none=>
  rw[hP]at ho hR;simp only at ho;subst ho;refine⟨_,s1,rfl,?_⟩;simp only[Zg 1 0 none _ (.inr rfl),au,aq];rw[Za,bn,ae];simp only[au,aq];rw[ae];exact bad s1 aH hR.symm
 |some pg=>
  rw[hP]at ho hR;obtain⟨q,rfl,hq⟩:=ho;simp only at hR;refine⟨_,s1,rfl,?_⟩;simp only[aX,au,aq];rw[Za,br,af];obtain⟨_,e1,rfl⟩:=lv s1;rw[vZ e1];simp only[av,aq];obtain⟨_,e2,rfl⟩:=Zr6 n u (by omega) s1 (by omega);rw[vZ e2];simp only[av,au,aq];have hfn:=ZsA AJ;rw[Zc (x:=(((u+6)/7:Nat):Int)+(oW u:Int))];have W7:(((pg.length:Nat):Int)==(((u+6)/7:Nat):Int)+(oW u:Int))=decide (pg.length=(u+6)/7+oW u):=by
   have:=nn pg.length ((u+6)/7+oW u) ((((u+6)/7:Nat):Int)+(oW u:Int));exact this
  rw[W7];cases hc:decide (pg.length=(u+6)/7+oW u)with
  |false=>
   rw[hc,af]at hR;rw[bn,ae];grind
  |true=>
  rw[hc,ae]at hR;rw[br,af];refine Ok.join λaI jU=>?_
  obtain⟨m,hm⟩: ∃m,7*((u+6)/7)=m:=⟨_,rfl⟩;rw[hm]at hR;refine Zi _ (λc y t=>∃(i z:Nat) (pl:ai) (l:List bw),y=[.slice z pl l.length,.int .i64 (i:Int)]/\(z=3\/pl=none)/\i<=m/\m-i<=c/\bm st t pl (bT l)/\l.length<=i/\lK img x.cc u x.g m 0 []=lK img x.cc u x.g (m-i) i l/\Sl t q (ints pg)/\(∀b∈aO pl,s1.length<=b)/\s1.length<=t.length) ?_ m n _ _ ⟨0,0,none,[],rfl,.inr rfl,cz _,by omega,.nil aH,aQ _,rfl,hq,λb hb=>(by cases hb),aQ _⟩ (by omega);have AH:=hq.pE;rintro c y t ⟨i,z,pl,l,rfl,hz,hi,N6,gq,gp,aP,X3,lN,cg⟩ rec aN;simp only[Zg 3 z pl _ hz,av,aq];obtain⟨_,e3,rfl⟩:=lv t;rw[Zk e3];simp only[av,aq];rw[Zc (x:=7*(((u+6)/7:Nat):Int)),show 7*(((u+6)/7:Nat):Int)=(m:Int) by omega];by_cases aw:i<m
  .rw[ax (show(i:Int)<(m:Int) by omega),ae]
   obtain⟨r,hr⟩: ∃r,m-i=r+1:=⟨m-i-1,by omega⟩;rw[hr]at aP;have ik:m-(i+1)=r:=by omega
   refine Ok.call (ZrP n img x.cc i t hl (by omega) (by omega)) ?_;rintro _ ⟨t1,rfl,jz⟩;have GX:=gq.mono jz;refine⟨_,t1,rfl,?_⟩;rw[dT];unfold eL;simp only[au,av,aq];have fail:lK img x.cc u x.g (r+1) i l=none->Ok (PZ st R) ((bZ st.length [.slice 0 none 0,.slice 0 none 0,.bool false]:M ah) t1):=λhf=>by
    refine bad t1 GX.1 ?_;rw[aP,hf]at hR;exact hR.symm
   rw[Za];cases hF:me img x.cc i with
   |none=>
    rw[show(!(none:Option bw).isSome)=true from rfl,ae];simp only[au,aq];rw[Za,ae];simp only[au,aq];rw[ae];exact fail (by unfold lK;rw[hF])
   |some s=>
    have eu:lK img x.cc u x.g (r+1) i l=bif decide (u<=i)then(bif nX s then lK img x.cc u x.g r (i+1) l else none)else(bif decide (s.gen<1)||decide (s.gen>x.g)then none else lK img x.cc u x.g r (i+1) (l++[s])):=by
     conv=>lhs;unfold lK
     rw[hF]
    rw[show(!(some s).isSome)=false from rfl,af,show(some s).getD gT=s from rfl];have Kh:((s.live==false)&&((s.gen==0)&&((s.block==0)&&true)))=nX s:=rfl;rw[Kh,Za];by_cases hiu:u<=i
    .rw[ax hiu,ae]at eu
     rw[ax (show(i:Int)>=(u:Int) by omega),ae];simp only[au,aq];rw[Za];cases wW:nX s with
     |false=>
      rw[wW,af]at eu;rw[bn,ae];simp only[au,aq];rw[ae];exact fail eu
     |true=>
      rw[wW,ae]at eu;rw[br,af,Za,aF (show ¬(i:Int)<(u:Int) by omega),af];simp only[au,aq];rw[af,Za,af];simp only[aX,aq];rw[Zc];exact aN (m-(i+1)) _ _ (by omega) ⟨i+1,3,pl,l,rfl,.inl rfl,by omega,aQ _,GX,by omega,by rw[aP,eu,ik],X3.mono jz,lN,by have:=jz.len;omega⟩
    .rw[aF hiu,af]at eu
     rw[aF (show ¬(i:Int)>=(u:Int) by omega),af];simp only[au,aq];rw[Za,af,Za,ax (show(i:Int)<(u:Int) by omega),ae,Za];by_cases oq:s.gen<1
     .rw[ax oq,Bool.true_or,ae]at eu
      rw[ax oq,ae];simp only[au,aq];rw[ae];exact fail eu
     .rw[aF oq,vP]at eu
      rw[aF oq,af];simp only[au,aq];by_cases p7:s.gen>x.g
      .rw[ax p7,ae]at eu
       rw[ax p7,ae];exact fail eu
      .rw[aF p7,af]at eu
       rw[aF p7,af,Za,ae];have Et:([.bool s.live,.int .i64 s.gen,.int .i64 s.block]:ah)=eL s:=rfl;rw[Et];have ij:aB t1 (t1++[some ⟨false,eL s⟩]):= .new _ _;rw[Zz,jL (f:=false) (all:=eL s) (by simp) (by show 0+3<=3;omega),dK,dG (show(eL s).length<=3 from aQ _)];obtain⟨p6,u6,mo,rf,yo,tW⟩:=(GX.mono ij).tK (β:=ah) (sz:=3) (n:=l.length) (m:=1) (lim:=2932031007402) (ds:=eL s) (by omega) (ZB l) rfl (by omega);rw[tW];simp only[aX,aq];rw[Zc];have hlen:=(jz.trans ij).len;refine aN (m-(i+1)) _ _ (by omega) ⟨i+1,3,p6,l++[s],by rw[bB,iK];rfl,.inl rfl,by omega,aQ _,?_,by rw[bB,iK];omega,by rw[aP,eu,ik],?_,λb hb=>?_,by have:=rf.1;omega⟩
       .rw[Iv]
        have:bT [s]=eL s:=by unfold bT;simp
        rw[this];exact mo
       .exact(X3.mono (jz.trans ij)).fx rf (zX λb hb c9=>by have:=AH b hb;have:=lN b c9;omega)
       grind
  .rw[aF (show ¬(i:Int)<(m:Int) by omega),af,jU]
   rw[show m-i=0 by omega]at aP;rw[aP]at hR;simp only[aX,aq,Zp];refine .mk ⟨_,Zr gq.1,?_⟩;rw[<-hR];exact⟨pl,q,rfl,gq.sl.dQ _,X3.dQ _⟩
def mQ (l:List bw) (u g:Int):Nat->Int->ak->Option (ak)
 |0,_,_=>none
 |f+1,k,out=>bif k==0 then some out else(bif decide (k>u)then none else(match l[(k-1).toNat]? with
  |none=>none
  |some s=>bif s.live then none else(bif decide (s.gen>=g)then none else(bif decide (k-1∈out)then none else mQ l u g f s.block (out++[k-1])))))
def sV (g:Int) (out:ak) (i:Nat) (s:bw):Bool:=bif s.live then true else(bif decide (s.gen<g)then decide ((i:Int)∈out)else(bif s.gen==g then s.block==0 else true))
def sc (g:Int) (out:ak):Nat->List bw->Bool
 |_,[]=>true
 |i,s::r=>bif sV g out i s then sc g out (i+1) r else false
def wD (l:List bw) (x:cy):Option (ak):=match mQ l x.used x.g (l.length+2) x.free []with
 |none=>none
 |some out=>bif sc x.g out 0 l then some out else none
def Dc (st:St) (R:Option (ak)) (o:Out ah×St):Prop:=∃s',aB st s'/\match R with
 |none=>o=(.val [.slice 0 none 0,.bool false],s')
 |some l=>∃z p,o=(.val [.slice z p l.length,.bool true],s')/\(z=1\/p=none)/\Sl s' p (ints l)
def H3 {x:bw} (h:l[j]? =some x) (k:Nat) (hk:k<3:=by omega):(bT l)[j*3+k]? =(eL x)[k]? :=by
 have:=Uz h;grind
def ZrH (n:Nat) (l:List bw) (z:Nat) (p:ai) (x:cy) (pc:ai) (st:St) (hz:z=3\/p=none) (hs:Sl st p (bT l)) (gp:(l.length:Int)=x.used) (rj:l.length<=1792) (hr: ∀s∈l,s.live=false->0<=s.block/\s.block<=5000) (hf:0<=x.free/\x.free<=5000) (hn:4000<=n):
  Ok (Dc st (wD l x)) (run Bd n 244 [.slice z p l.length,.agg (dj x pc)] st):=by
 obtain⟨n,rfl⟩: ∃m,n=m+1:=⟨n-1,by omega⟩;rw[Ze,h.afb];unfold Sc xC fB Q_ cM N_ qQ aA Zm bq kb uE Li Lb dY aZ iw;simp only[Zg 3 z p _ hz];rw[dT];unfold dj;simp only[av,aX,aq,ZL];obtain⟨R,hR⟩: ∃R,wD l x=R:=⟨_,rfl⟩;rw[hR];have bad: ∀s',aB st s'->R=none->Ok (Dc st R) ((bZ st.length [.slice 0 none 0,.bool false]:M ah) s'):=λs' hp hn=>by
  rw[hn,Zp];exact .mk ⟨_,Zr hp,rfl⟩
 unfold wD at hR;have EG: ∀(t:St) (j:Nat) (s:bw),Sl t p (bT l)->l[j]? =some s->∃i o,p=some (i,o)/\(∀K:DV->M ah,bD i (j*3+o) K t=K (.bool s.live) t)/\(∀K:DV->M ah,bD i (j*3+o+1) K t=K (.int .i64 s.gen) t)/\∀K:DV->M ah,bD i (j*3+o+2) K t=K (.int .i64 s.block) t:=λt j s ht hj=>by
  have tZ:=(ef.1 hj).1;obtain⟨i,o,rfl⟩:=ht.cH (by rw[ZB];omega);refine⟨i,o,rfl,λK=>?_,λK=>?_,λK=>?_⟩
  .have:=ht.get (β:=ah) (by rw[H3 hj 0];rfl) K
   exact this
  .have:=ht.get (β:=ah) (by rw[H3 hj 1];rfl) K
   rw[show j*3+o+1=j*3+1+o by omega];exact this
  .have:=ht.get (β:=ah) (by rw[H3 hj 2];rfl) K
   rw[show j*3+o+2=j*3+2+o by omega];exact this
 refine Ok.join λaz nA=>?_
 refine Zi _ (λc y t=>∃(k:Int) (f z1:Nat) (po:ai) (out:ak),y=[.slice z1 po out.length,.int .i64 k]/\(z1=1\/po=none)/\(0<=k/\k<=5000)/\out.length+f=l.length+1/\f<=c/\bm st t po (ints out)/\out.Nodup/\(∀j∈out,0<=j/\j<(l.length:Int))/\mQ l x.used x.g (l.length+2) x.free []=mQ l x.used x.g (f+1) k out/\Sl t p (bT l)) ?_ (l.length+1) n _ _ ⟨x.free,l.length+1,0,none,[],rfl,.inr rfl,hf,by simp,aQ _,.nil (.refl _),.nil,λj hj=>(by cases hj),rfl,hs⟩ (by omega);rintro c y t ⟨k,f,z1,po,out,rfl,kP,hk,ep,Ob,gq,jo,gM,aP,cg⟩ rec aN;simp only[Zg 1 z1 po _ kP,av,aq];have jT:(ints out).length=out.length*1:=by rw[Zy,cR]
 have fail: ∀u,aB st u->mQ l x.used x.g (f+1) k out=none->Ok (Dc st R) ((bZ st.length [.slice 0 none 0,.bool false]:M ah) u):=λu hu hf=>by
  refine bad u hu ?_;rw[aP,hf]at hR;exact hR.symm
 by_cases lM:k=0
 .have ag4:mQ l x.used x.g (f+1) k out=some out:=by unfold mQ;rw[lM];rfl
  rw[aP,ag4]at hR;simp only at hR;rw[lM,show(!((0:Int)==0))=false from rfl,af,nA];simp only[aX,aq];refine Ok.join λaI jU=>?_
  refine Zi _ (λc y u=>∃i:Nat,y=[.int .i64 (i:Int)]/\i<=l.length/\l.length-i<=c/\u=t/\sc x.g out 0 l=sc x.g out i (l.drop i)) ?_ l.length n _ _ ⟨0,rfl,cz _,by omega,rfl,rfl⟩ (by omega);rintro c2 y2 u ⟨i,rfl,hi,kJ,rfl,vy⟩ dw j3;simp only[av,aq];by_cases aw:i<l.length
  .have da:l[i]? =some l[i]:=cq aw
   have fW:l.drop i=l[i]::l.drop (i+1):=iV aw;generalize l[i]=s at da fW;rw[fW]at vy;have G3:sc x.g out 0 l=bif sV x.g out i s then sc x.g out (i+1) (l.drop (i+1))else false:=vy;obtain⟨pi,KV,rfl,EF,ld1,Yw⟩:=EG u i s cg da;have Ak:sV x.g out i s=true->Ok (Dc st R) (dw [.int .i64 (ar ((i:Int)+1))] u):=λhb=>by
    rw[hb,ae]at G3;rw[Zc];exact j3 (l.length-(i+1)) _ _ (by omega) ⟨i+1,rfl,by omega,aQ _,rfl,G3⟩
   have K9:sV x.g out i s=false->Ok (Dc st R) ((bZ st.length [.slice 0 none 0,.bool false]:M ah) u):=λhb=>by
    rw[hb,af]at G3;rw[G3]at hR;exact bad u gq.1 hR.symm
   rw[ax (by omega),ae,bd,Zb (Zj aw)];simp only[bp];rw[EF];simp only[tm];rw[Za];cases eN:s.live with
   |true=>
    have hb:sV x.g out i s=true:=by unfold sV;rw[eN];rfl
    rw[br,af];simp only[au,aq];rw[Za,af];simp only[au,aq];rw[Za,af,bd,Zb (Zj aw),EF];simp only[tm];rw[Za,eN,br,af];simp only[au,aq];rw[Za,af];simp only[au,aq];rw[af];exact Ak hb
   |false=>
    have hb:sV x.g out i s=(bif decide (s.gen<x.g)then decide ((i:Int)∈out)else(bif s.gen==x.g then s.block==0 else true)):=by unfold sV;rw[eN];rfl
    rw[bn,ae,bd,Zb (Zj aw),ld1];simp only[bg,au,aq];rw[Za];have second:decide (s.gen<x.g)=false\/decide ((i:Int)∈out)=true->∀ck:ah->M ah,(∀b,ck [.bool b] u=(bif b then(bZ st.length [.slice 0 none 0,.bool false]:M ah)else dw [.int .i64 (ar ((i:Int)+1))]) u)->
      Ok (Dc st R) ((bif s.gen==x.g then ck [.bool (!(s.block==0))]else ck [.bool false]) u):=λmT ck Cu=>by
     cases tX:(s.gen==x.g)with
     |true=>
      have aka:=eq_of_beq tX;rw[ae,Cu];have c9:sV x.g out i s=(s.block==0):=by
       rw[hb,aF (by omega),af,tX,ae]
      cases jl:(s.block==0)with
      |true=>rw[br,af];exact Ak (by rw[c9,jl])
      |false=>rw[bn,ae];exact K9 (by rw[c9,jl])
     |false=>
      rw[af,Cu,af];refine Ak ?_;rw[hb,tX,af];rcases mT with h1|h1
      .rw[h1];rfl
      .rw[h1];cases decide (s.gen<x.g)<;>rfl
    have acB:decide (s.gen<x.g)=false\/decide ((i:Int)∈out)=true->Ok (Dc st R) ((bH (some (pi,KV)) λi2 o1=>aC (aR (i:Int) l.length)<|bD i2 (i*3+o1) λd1=>tJ d1 λx1=>
      cK (λY1=>gC Y1 λb4 Y2=>aL Y2<|cK (λajo=>gC ajo λb5 ajp=>aL ajp<|
       (bif b5 then(bZ st.length [.slice 0 none 0,.bool false]:M ah)else dw [.int .i64 (ar ((i:Int)+1))])) λgN=>
      bif b4 then bH (some (pi,KV)) λi3 o2=>aC (aR (i:Int) l.length)<|bD i3 (i*3+o2+2) λd2=>cY .i64 d2 λx2=>gN [.bool (!(x2==0))]
      else gN [.bool false]) λdp=>
      bif !x1 then bH (some (pi,KV)) λi4 o3=>aC (aR (i:Int) l.length)<|bD i4 (i*3+o3+1) λd3=>cY .i64 d3 λx3=>dp [.bool (x3==x.g)]
      else dp [.bool false]) u):=λmT=>by
     rw[bd,Zb (Zj aw),EF];simp only[tm];rw[Za,eN,bn,ae,bd,Zb (Zj aw),ld1];simp only[bg,au,aq];refine Ok.join λgN aho=>?_
     have:=second mT gN (λb=>by rw[aho];simp only[au,aq]);cases tX:(s.gen==x.g)with
     |true=>
      rw[tX,ae]at this;rw[ae,bd,Zb (Zj aw),Yw];simp only[bg];exact this
     |false=>
      rw[tX,af]at this;rw[af];exact this
    cases hg:decide (s.gen<x.g)with
    |true=>
     rw[ae];refine Ok.call (Br n 1 out (i:Int) po u (.inl rfl) gq.sl) ?_;rintro _ rfl;refine⟨_,u,rfl,?_⟩;simp only[au,aq];rw[Za];cases ho:decide ((i:Int)∈out)with
     |true=>
      rw[br,af];exact acB (.inr ho)
     |false=>
      rw[bn,ae];simp only[au,aq];rw[ae];exact K9 (by rw[hb,hg,ae,ho])
    |false=>
     rw[af];simp only[au,aq];rw[Za,af];exact acB (.inl hg)
  .rw[aF (by omega),af,jU]
   rw[lU (by omega)]at vy;rw[vy,show sc x.g out i []=true from rfl,ae]at hR;simp only[aq,Zp];refine .mk ⟨_,Zr gq.1,?_⟩;rw[<-hR];exact⟨1,po,rfl,.inl rfl,gq.sl.dQ _⟩
 .have eu:mQ l x.used x.g (f+1) k out=(bif decide (k>x.used)then none else(match l[(k-1).toNat]? with
    |none=>none
    |some s=>bif s.live then none else(bif decide (s.gen>=x.g)then none else(bif decide (k-1∈out)then none else mQ l x.used x.g f s.block (out++[k-1]))))):=by
   conv=>lhs;unfold mQ
   rw[eG.2 lM,af]
  rw[eG.2 lM,bn,ae,Za];by_cases JM:k>x.used
  .rw[ax JM,ae]at eu
   rw[ax JM,ae];simp only[au,aq];rw[Za,ae];simp only[au,aq];rw[Za,ae];simp only[au,aq];rw[ae];exact fail t gq.1 eu
  .rw[aF JM,af]at eu
   obtain⟨j,hj⟩: ∃j:Nat,k-1=(j:Int):=⟨(k-1).toNat,by omega⟩;have tZ:j<l.length:=by omega
   have da:l[j]? =some l[j]:=cq tZ;have kN:l[j]∈l:=kz tZ;generalize l[j]=s at da kN;rw[hj,bp,da]at eu;simp only at eu;obtain⟨pi,KV,rfl,EF,ld1,Yw⟩:=EG t j s cg da;rw[aF JM,af,bd,Zc (x:=k-1),hj,Zb (Zj tZ)];simp only[bp];rw[EF];simp only[tm,au,aq];rw[Za];cases eN:s.live with
   |true=>
    rw[eN,ae]at eu;rw[ae];simp only[au,aq];rw[Za,ae];simp only[au,aq];rw[ae];exact fail t gq.1 eu
   |false=>
    rw[eN,af]at eu;rw[af,bd,Zb (Zj tZ),ld1];simp only[bg,au,aq];rw[Za];cases hg:decide (s.gen>=x.g)with
    |true=>
     rw[hg,ae]at eu;rw[ae];simp only[au,aq];rw[ae];exact fail t gq.1 eu
    |false=>
     rw[hg,af]at eu;rw[af];refine Ok.call (Br n 1 out (j:Int) po t (.inl rfl) gq.sl) ?_;rintro _ rfl;refine⟨_,t,rfl,?_⟩;simp only[au,aq];cases ho:decide ((j:Int)∈out)with
     |true=>
      rw[ho,ae]at eu;rw[ae];exact fail t gq.1 eu
     |false=>
      rw[ho,af]at eu;have cA:(j:Int)∉out:=Ff ho;have abJ:(out++[(j:Int)]).Nodup:=rO.2 ⟨jo,zu.2 ⟨by simp,.nil⟩,λa ha b hb e=>cA (by rw[<-cB.1 hb,<-e];exact ha)⟩;have abB: ∀a∈out++[(j:Int)],0<=a/\a<(l.length:Int):=λa ha=>by
       rcases gx.1 ha with ha|ha
       .exact gM a ha
       .rw[cB.1 ha];omega
      have GV:=Pl l.length _ abJ abB;rw[bB,iK]at GV;obtain⟨f,rfl⟩: ∃f',f=f'+1:=⟨f-1,by omega⟩;rw[af];have ij:aB t (t++[some ⟨false,[.int .i64 (j:Int)]⟩]):= .new _ _;rw[Zz,jL (f:=false) (all:=[.int .i64 (j:Int)]) (by simp) (by simp),dK,dG (by simp)];obtain⟨p6,u6,mo,rf,yo,tW⟩:=(gq.mono ij).tK (β:=ah) (sz:=1) (n:=out.length) (m:=1) (lim:=8796093022208) (ds:=[.int .i64 (j:Int)]) (by omega) jT rfl (by omega);rw[tW];have ab2:Sl u6 (some (pi,KV)) (bT l):=by
       refine(hs.mono (mo.1))
      obtain⟨pi2,po2,e,_,_,aiX⟩:=EG u6 j s ab2 da;cases e;rw[bd,Zb (Zj tZ),aiX];simp only[bg];refine aN f _ _ (by omega) ⟨s.block,f,1,p6,out++[(j:Int)],by rw[bB,iK],.inl rfl,hr s kN eN,by rw[bB,iK];omega,aQ _,by rw[Mn];exact mo,abJ,abB,by rw[aP,eu],ab2⟩
def yI (m:Int) (l:ak) (a:Int):ak:=if 0<=a/\a<m/\a∉l then l.filter (λx=>decide (x<a))++a::l.filter (λx=>decide (a<x))else l
def Nb {l:ak} {a:Int} (h:kB l):kB (yI m l a)/\∀k,k∈yI m l a↔k∈l\/(k=a/\0<=a/\a<m):=by
 unfold yI;by_cases hc:0<=a/\a<m/\a∉l
 .rw[bE hc]
  refine⟨?_,λk=>?_⟩
  .unfold kB
   rw[Lj];refine⟨List.Pairwise.sublist List.filter_sublist h,List.pairwise_cons.2 ⟨λx hx=>?_,List.Pairwise.sublist List.filter_sublist h⟩,λx hx y hy=>?_⟩
   .grind
   grind
  grind
 grind
def pV (m:Int):ak->ak->Option (ak)
 |[],r=>some r
 |k::a,r=>bif decide (k<2)then none else(bif decide (k∈r)then none else pV m a (yI m r k))
def jR (u:Int) (l:List bw) (e:bh) (k:Int):Bool:=bif decide (e.slot>=u)then false else(match l[e.slot.toNat]? with
 |none=>false
 |some s=>(s.live==true)&&((s.gen==e.gen)&&((s.block==k)&&true)))
def ji (u:Int) (l:List bw):List bh->ak->Bool
 |e::es,k::ks=>bif jR u l e k then ji u l es ks else false
 |_,_=>true
def iE (im:aj) (u:Int) (l:List bw):List ZH->List dO->ak->Int->Option (List dO×ak×Int)
 |[],hs,all,lv=>some (hs,all,lv)
 |q::r,hs,all,lv=>match uV im q.dz with
  |none=>none
  |some (es,ns)=>bif ji u l es ns then iE im u l r (hs++[⟨q.name,Z8 es⟩]) (all++ns) (lv-es.length)else none
def oz (l:List bw):Nat:=(l.filter (·.live)).length
def uS (img:aj) (x:cy):Option (fJ×ak):=bif !ZU x then none else(bif decide (x.blocks>((img.length/64:Nat):Int))then none else
 (match qH (img.take (64*x.blocks.toNat)) x with
 |none=>none
 |some (l,pg)=>match wD l x with
  |none=>none
  |some fr=>match vG (img.take (64*x.blocks.toNat)) x.dir with
   |none=>none
   |some (qs,bs)=>match iE (img.take (64*x.blocks.toNat)) x.used l qs [] (pg++bs) (oz l)with
    |none=>none
    |some (hs,all,lv)=>match pV x.blocks all [0,1]with
     |none=>none
     |some r=>bif lv==0 then(bif decide (r.length=all.length+2)then some (⟨x.blocks,x.de,x.g,hs,l.map (·.gen),fr⟩,r)else none)else none))
def ZnK {k:Int} {m:jK} (h:uj img k=some m):oR m=true/\m.kids.length<=12:=by
 unfold uj at h;cases hl:jt img k with
 |none=>rw[hl]at h;cases h
 |some l=>rw[hl]at h;exact Mx h
def SL {img:aj} : ∀(j:Nat) (ks:ak) (e:bh) (es:List bh) (bs:ak),jN img j ks e=some (es,bs)->∀a∈es,0<=a.slot/\a.slot<1792
 |0,_,_,_,_,h,a,ha=>by cases h;cases ha
 |j+1,ks,e,es,bs,h,a,ha=>by
  unfold jN at h;cases h1:jN img j ks e with
  |none=>rw[h1]at h;cases h
  |some q=>
   obtain⟨yd,xW⟩:=q;have i1:=SL j ks e yd xW h1;rw[h1]at h;simp only at h;cases h2:uj img (ks.getD j 0)with
   |none=>rw[h2]at h;cases h
   |some m=>
    rw[h2]at h;simp only at h;cases h3:decide (m.kids.length=j)with
    |false=>rw[h3]at h;cases h
    |true=>
     rw[h3,ae]at h;cases h4:jN img j m.kids m.bJ with
     |none=>rw[h4]at h;cases h
     |some q=>
      obtain⟨Ai,wu⟩:=q;have i2:=SL j m.kids m.bJ Ai wu h4;rw[h4]at h;simp only at h;cases h5:ft e m.bJ with
      |false=>rw[h5]at h;cases h
      |true=>
       rw[h5,ae]at h;cases h;rcases gx.1 ha with ha|ha
       .exact i1 a ha
       .rcases eF.1 ha with rfl|ha
        .exact Ie (ZnK h2).1
        .exact i2 a ha
def Zvg {k:Int} {bs:ak} (h:lB img d k=some (es,bs)): ∀a∈es,0<=a.slot/\a.slot<1792:=by
 unfold lB at h;cases h2:uj img k with
 |none=>rw[h2]at h;cases h
 |some m=>
  rw[h2]at h;simp only at h;cases h3:decide (m.kids.length=d)with
  |false=>rw[h3]at h;cases h
  |true=>
   rw[h3,ae]at h;cases h4:jN img d m.kids m.bJ with
   |none=>rw[h4]at h;cases h
   |some q=>
    obtain⟨Ai,wu⟩:=q;rw[h4]at h;cases h;intro a ha;rcases eF.1 ha with rfl|ha
    .exact Ie (ZnK h2).1
    .exact SL d m.kids m.bJ Ai wu h4 a ha
def TN {img:aj} : ∀(r:ak) (i:Nat) (es:List bh) (bs:ak) (hZ:List bh) (gP:ak),lJ img i r es bs=some (hZ,gP)->i+r.length<=12->(∀a∈es,0<=a.slot/\a.slot<1792)->es.length+1<=2^i->bs.length=es.length->(∀a∈hZ,0<=a.slot/\a.slot<1792)/\hZ.length+1<=2^(i+r.length)/\gP.length=hZ.length
 |[],i,es,bs,hZ,gP,h,_,h1,h2,h3=>by cases h;exact⟨h1,h2,h3⟩
 |k::r,i,es,bs,hZ,gP,h,hi,h1,h2,h3=>by
  rw[cO]at hi⊢;unfold lJ at h;cases hk:(k==0)with
  |true=>
   rw[hk,ae]at h;have:=TN r (i+1) es bs hZ gP h (by omega) h1 (by omega) h3;rwa [show i+1+r.length=i+(r.length+1) by omega]at this
  |false=>
   rw[hk,af]at h;cases ht:lB img i k with
   |none=>rw[ht]at h;cases h
   |some q=>
    obtain⟨fe,ga⟩:=q;rw[ht]at h;obtain⟨l1,l2⟩:=Dy ht;have dA:=Zvg ht;have:=TN r (i+1) (es++fe) (bs++ga) hZ gP h (by omega) (by grind) (by rw[bB];omega) (by rw[bB,bB];omega);rwa [show i+1+r.length=i+(r.length+1) by omega]at this
def Zvx {bs:ak} (h:uV img r=some (es,bs)) (hr:r.length=12):(∀a∈es,0<=a.slot/\a.slot<1792)/\es.length<4096/\bs.length=es.length:=by
 have:=TN r 0 [] [] es bs h (by omega) (λa ha=>by cases ha) (by simp) rfl;rw[hr]at this;grind
def ZtS {s:bw} (h:me img top i=some s):ZK s=true:=by
 unfold me at h;cases h1:gL img top with
 |none=>rw[h1]at h;cases h
 |some f=>
  rw[h1]at h;simp only at h;cases h2:gL img (f.getD (i/112) 0)with
  |none=>rw[h2]at h;cases h
  |some g=>
   rw[h2]at h;simp only at h;cases h3:kq img (g.getD (i/7%16) 0)with
   |none=>rw[h3]at h;cases h
   |some l=>
    rw[h3]at h;simp only at h;have hm:=ur h;unfold kq at h3;by_cases hk:g.getD (i/7%16) 0=0
    .rw[bE hk]at h3
     cases h3;rw[List.eq_of_mem_replicate hm];rfl
    .rw[bj hk]at h3
     cases h4:jt img (g.getD (i/7%16) 0)with
     |none=>rw[h4]at h3;cases h3
     |some b=>
      rw[h4]at h3;grind[ZM]
def Tw {img:aj} {top:Int} {u:Nat} {g:Int} : ∀(c i:Nat) (l l':List bw),lK img top u g c i l=some l'->(∀s∈l,ZK s=true)->l.length=min i u->(∀s∈l',ZK s=true)/\l'.length=min (i+c) u
 |0,i,l,l',h,h1,h2=>by cases h;exact⟨h1,h2⟩
 |c+1,i,l,l',h,h1,h2=>by
  unfold lK at h;cases hf:me img top i with
  |none=>rw[hf]at h;cases h
  |some s=>
   rw[hf]at h;simp only at h;by_cases hui:u<=i
   .rw[ax hui,ae]at h
    cases hz:nX s with
    |false=>rw[hz]at h;cases h
    |true=>
     rw[hz,ae]at h;have:=Tw c (i+1) l l' h h1 (by omega);rwa [show i+1+c=i+(c+1) by omega]at this
   .rw[aF hui,af]at h
    cases hz:(decide (s.gen<1)||decide (s.gen>g))with
    |true=>rw[hz]at h;cases h
    |false=>
     rw[hz,af]at h;have:=Tw c (i+1) (l++[s]) l' h (λa ha=>by
      rcases gx.1 ha with ha|ha
      .exact h1 a ha
      .rw[cB.1 ha];exact ZtS hf) (by rw[bB,iK];omega)
     rwa [show i+1+c=i+(c+1) by omega]at this
def Ut {x:cy} (hx:uH x) (h:qH img x=some (l,pg)):(∀s∈l,ZK s=true)/\(l.length:Int)=x.used/\l.length<=1792/\pg.length<=273:=by
 obtain⟨g1,g2,g3,g4,_,_⟩:=Z4 hx.g;have ug:=hx.u0;have vB:=hx.u1;unfold qH at h;cases hp:xS img x.cc with
 |none=>rw[hp]at h;cases h
 |some p=>
  rw[hp]at h;simp only at h;cases hd:decide (p.length=(x.used.toNat+6)/7+oW x.used.toNat)with
  |false=>rw[hd]at h;cases h
  |true=>
   rw[hd,ae]at h;cases hs:lK img x.cc x.used.toNat x.g (7*((x.used.toNat+6)/7)) 0 []with
   |none=>rw[hs]at h;cases h
   |some l'=>
    rw[hs]at h;cases h;obtain⟨a1,a2⟩:=Tw _ _ _ _ hs (λs hs=>by cases hs) (by simp);have hfn:=ZsA (a:=x.used.toNat) (by omega);grind
def ZkB {s:bw} (h:ZK s=true) (hl:s.live=false):0<=s.block/\s.block<=5000:=by
 grind[ZK,lg]
set_option maxHeartbeats 2000000
open Go.Gv
def zz (a b c:Nat):ah:=[.int .i64 0,.int .i64 0,.int .i64 0,.slice a none 0,.slice b none 0,.slice c none 0]
def uJ (st:St) (R:Option (fJ×ak)) (o:Out ah×St):Prop:=∃s',aB st s'/\match R with
 |none=>o=(.val [.agg (zz 0 0 0),.slice 0 none 0,.bool false],s')
 |some (y,r)=>∃z1 p1 p2 p3 q,o=(.val [.agg (dE y z1 p1 1 p2 1 p3),.slice 1 q r.length,.bool true],s')/\(z1=2\/p1=none)/\lf s' y p1 p2 p3/\Sl s' q (ints r)
def Zv8 {l:List ZH} (h:HI l) {x:ZH} (hj:l[j]? =some x):((um l).drop (j*14+2)).take 12=ints x.dz:=by
 have hx:=h x (ur hj);refine tg λk=>?_
 rw[xo];split
 .rename_i hk
  rw[Bc,show j*14+2+k=j*14+(2+k) by omega,M5 h hj (2+k) (by omega)];show(DV.str x.name::DV.int .i64 x.mask::ints x.dz)[2+k]? =_;rw[show 2+k=k+1+1 by omega,qu,qu]
 .rw[Hx (by rw[Zy,hx.1];omega)]
def ZxP {l:List bh} (h:l[j]? =some e):((bY l).drop (j*4)).take 2=[.int .i64 e.slot,.int .i64 e.gen]:=by
 have:=Dw h;have h2:=congrArg (List.take 2) this;rw[C7]at h2;exact h2
def ZwI (u:Int) (l:List bw) (h1:es[k]? =some e) (h2:ns[k]? =some w):ji u l (es.drop k) (ns.drop k)=bif jR u l e w then ji u l (es.drop (k+1)) (ns.drop (k+1))else false:=by
 obtain⟨a1,a2⟩:=ef.1 h1;obtain⟨b1,b2⟩:=ef.1 h2;rw[iV a1,iV b1,a2,b2];rfl
def Zrk (k:Nat) {s:St} : ∀ {ds:ah} {xs:List dO},kA s ds xs->kA (Z1 k s) ds xs
 |_,[],h=>h
 |_,_::_,⟨z,p,t,hz,h1,h2,h3⟩=>⟨z,p,t,hz,h1,h2.dQ k,Zrk k h3⟩
def Zvd (l:List bw) (s:bw):oz (l++[s])=oz l+(bif s.live then 1 else 0):=by
 grind[oz]
def Zsj (l:List bw):oz l<=l.length:=List.length_filter_le _ _
def Zqv (n:Nat) (img:aj) (x:cy) (pc:ai) (st:St) (hl:img.length<1000000) (hc:Sl st pc (ints x.aJ)) (cN:x.aJ.length<1000) (hn:80000<=n):
  Ok (uJ st (uS img x)) (run Bd n 211 [.str img,.agg (dj x pc)] st):=by
 obtain⟨n,rfl⟩: ∃m,n=m+1:=⟨n-1,by omega⟩;rw[Ze,h.aeH];unfold Ro LJ bq aA IZ pL Zx cP Qg bV oe Zn iL Zhm N_ FU xy iX qI Zm qQ oL ZZ Bq eI gJ Lb Z7 dY rW Bm Bo Li;simp only[bR];rw[dT];have Es:=λs1 (hp:aB st s1)=>Rl n x pc s1 (hc.mono hp) cN
 have pA:=λim (hi:im.length<1000000) (hx:uH x) s1=>ZqF n im x pc s1 hi hx (by omega)
 have dS:=λ(l:List bw) z p s1 hz hs gp rj hr hf=>ZrH n l z p x pc s1 hz hs gp rj hr hf (by omega)
 unfold dj at Es pA dS⊢;simp only[av,aX,aq,ZL];obtain⟨R,hR⟩: ∃R,uS img x=R:=⟨_,rfl⟩;rw[hR];have bad: ∀s',aB st s'->R=none->Ok (uJ st R) ((bZ st.length [.agg [.int .i64 0,.int .i64 0,.int .i64 0,.slice 0 none 0,.slice 0 none 0,.slice 0 none 0],.slice 0 none 0,.bool false]:M ah) s'):=λs' hp hn=>by
  rw[hn,Zp];exact .mk ⟨_,Zr hp,rfl⟩
 unfold uS at hR;refine Ok.cv (Es st (.refl st)) λs1 aH=>?_
 simp only[au,aq];rw[Za];cases hS:ZU x with
 |false=>
  rw[hS,bn,ae]at hR;rw[bn,ae];simp only[au,aq];rw[ae];exact bad s1 aH hR.symm
 |true=>
 have hx:=(BB x).1 hS;obtain⟨g1,g2,g3,g4,g5,g6⟩:=Z4 hx.g;have vm:=hx.f0;have Cl:=hx.f1;rw[hS,br,af]at hR;have ediv:ar (((img.length:Nat):Int).tdiv 64)=((img.length/64:Nat):Int):=by
  rw[show((img.length:Nat):Int).tdiv 64=((img.length/64:Nat):Int)from rfl];exact Zc
 rw[br,af,ediv];simp only[au,aq];by_cases jl:x.blocks>((img.length/64:Nat):Int)
 .rw[ax jl,ae]at hR
  rw[ax jl,ae];grind
 rw[aF jl,af]at hR;rw[aF jl,af];obtain⟨m,hm⟩: ∃m:Nat,x.blocks=(m:Int):=by grind
 have jV:x.blocks.toNat=m:=by omega
 have aiH:ar (64*x.blocks)=((64*m:Nat):Int):=by rw[hm,Zc];omega
 rw[jV]at hR;rw[aiH,Zb (by rw[aY,bu,bu];omega)];simp only[bp];obtain⟨im,Ec⟩: ∃im,img.take (64*m)=im:=⟨_,rfl⟩;have Xw:im.length<1000000:=by rw[<-Ec,cX];omega
 rw[Ec]at hR⊢;refine Ok.call (pA im Xw hx s1) ?_;rintro o ⟨s2,aU,ho⟩;have iP:=aH.trans aU;cases Gt:qH im x with
 |none=>
  rw[Gt]at ho hR;simp only at ho;subst ho;refine⟨_,s2,rfl,?_⟩;simp only[Zg 3 0 none _ (.inr rfl),Zg 1 0 none _ (.inr rfl),au,aq];rw[bn,ae];exact bad s2 iP hR.symm
 |some q=>
 obtain⟨l,pg⟩:=q;rw[Gt]at ho hR;obtain⟨YS,px2,rfl,AL,Ey⟩:=ho;simp only at hR;obtain⟨l1,l2,l3,l4⟩:=Ut hx Gt;refine⟨_,s2,rfl,?_⟩;simp only[aX,au,aq];rw[br,af];refine Ok.call (dS l 3 YS s2 (.inl rfl) AL l2 l3 (λs hs eN=>ZkB (l1 s hs) eN) (by omega)) ?_;rintro o ⟨s3,cu,ho⟩;have uc:=iP.trans cu;have lO:=λs3=>ZrU n im x.dir s3 Xw (by omega)
 cases hFr:wD l x with
 |none=>
  rw[hFr]at ho hR;simp only at ho;subst ho;refine⟨_,s3,rfl,?_⟩;simp only[Zg 1 0 none _ (.inr rfl),au,aq];refine Ok.call (lO s3) ?_;rintro o ⟨s4,fw,ho⟩;cases Gp:vG im x.dir with
  |none=>
   rw[Gp]at ho;simp only at ho;subst ho;refine⟨_,s4,rfl,?_⟩;simp only[Zg 14 0 none _ (.inr rfl),Zg 1 0 none _ (.inr rfl),au,aq];rw[Za,bn,ae];simp only[au,aq];rw[ae];exact bad s4 (uc.trans fw) hR.symm
  |some q=>
   obtain⟨qs,bs⟩:=q;rw[Gp]at ho;obtain⟨z,p,z2,q,rfl,hz,gS,_⟩:=ho;refine⟨_,s4,rfl,?_⟩;simp only[Zg 14 z p _ hz,Zg 1 z2 q _ gS,au,aq];rw[Za,bn,ae];simp only[au,aq];rw[ae];exact bad s4 (uc.trans fw) hR.symm
 |some fr=>
 rw[hFr]at ho hR;obtain⟨zf,pf,rfl,hzf,mW⟩:=ho;simp only at hR;refine⟨_,s3,rfl,?_⟩;simp only[Zg 1 zf pf _ hzf,au,aq];refine Ok.call (lO s3) ?_;rintro o ⟨s4,fw,ho⟩;have En:=uc.trans fw;cases Gp:vG im x.dir with
 |none=>
  rw[Gp]at ho hR;simp only at ho;subst ho;refine⟨_,s4,rfl,?_⟩;simp only[Zg 14 0 none _ (.inr rfl),Zg 1 0 none _ (.inr rfl),au,aq];rw[Za,br,af];simp only[au,aq];rw[bn,ae];exact bad s4 En hR.symm
 |some q=>
 obtain⟨qs,bs⟩:=q;rw[Gp]at ho hR;obtain⟨z6,px6,z7,px7,rfl,hz6,hz7,hq6,hq7,vg,akp,aj2⟩:=ho;simp only at hR;refine⟨_,s4,rfl,?_⟩;simp only[Zg 14 z6 px6 _ hz6,Zg 1 z7 px7 _ hz7,au,aq];rw[Za,br,af];simp only[au,aq];rw[af];have hL:=AL.mono (cu.trans fw);have hPg:=Ey.mono (cu.trans fw);have hFs:=mW.mono fw;have NC: ∀s',aB s4 s'->R=none->Ok (uJ st R) ((bZ st.length [.agg [.int .i64 0,.int .i64 0,.int .i64 0,.slice 0 none 0,.slice 0 none 0,.slice 0 none 0],.slice 0 none 0,.bool false]:M ah) s'):=λs' hp hn=>bad s' (En.trans hp) hn
 rw[Zz];obtain⟨s5,hs5⟩: ∃s5,s4++[some (⟨false,[]⟩:bO)]=s5:=⟨_,rfl⟩;have jY:aB s4 s5:=by rw[<-hs5];exact .new _ _
 rw[hs5];have ahV:bm s4 s5 (some (s4.length,0)) []:=⟨jY,(by grind)⟩;have r2: ∀K:ah->M ah,dy px2 (pg.length*1) K s5=K (ints pg) s5:=λK=>by
  have:=iR (hPg.mono jY) K;rwa [Zy,<-cR pg.length]at this
 rw[r2];obtain⟨pa1,s6,mo,rf,yo,tW⟩:=ahV.tK (β:=ah) (sz:=1) (n:=0) (m:=pg.length) (lim:=8796093022208) (ds:=ints pg) (by omega) rfl (by rw[Zy,cR]) (by omega);rw[tW];rw[jG]at mo;have r7: ∀K:ah->M ah,dy px7 (bs.length*1) K s6=K (ints bs) s6:=λK=>by
  have:=iR (hq7.mono mo.1) K;rwa [Zy,<-cR bs.length]at this
 rw[r7];obtain⟨pa,s7,J3,hf7,hb7,he7⟩:=mo.tK (β:=ah) (sz:=1) (n:=0+pg.length) (m:=bs.length) (lim:=8796093022208) (ds:=ints bs) (by omega) (by rw[Zy];omega) (by rw[Zy,cR]) (by omega);rw[he7];rw[<-M3]at J3;have As:(pg++bs).length=0+pg.length+bs.length:=by rw[bB];omega
 rw[<-As];obtain⟨BU,aa9⟩: ∃BU,pg++bs=BU:=⟨_,rfl⟩;have aj0:BU.length<=300:=by rw[<-aa9,bB];omega
 rw[aa9]at J3 hR⊢;refine Ok.join λaW kK=>?_
 have EG: ∀(t:St) (j:Nat) (s:bw),Sl t YS (bT l)->l[j]? =some s->∃i o,YS=some (i,o)/\(∀K:DV->M ah,bD i (j*3+o) K t=K (.bool s.live) t)/\(∀K:DV->M ah,bD i (j*3+o+1) K t=K (.int .i64 s.gen) t)/\∀K:ah->M ah,bS i (j*3+o) 3 K t=K (eL s) t:=λt j s ht hj=>by
  have tZ:=(ef.1 hj).1;obtain⟨i,o,rfl⟩:=ht.cH (by rw[ZB];omega);refine⟨i,o,rfl,λK=>?_,λK=>?_,λK=>?_⟩
  .have:=ht.get (β:=ah) (by rw[H3 hj 0];rfl) K
   exact this
  .have:=ht.get (β:=ah) (by rw[H3 hj 1];rfl) K
   rw[show j*3+o+1=j*3+1+o by omega];exact this
  .rw[ht.yi (k:=j*3) (n:=3) (by rw[ZB];omega),Uz hj]
 refine Zi _ (λc y t=>∃(i z94 PL:Nat) (xd:ai),y=[.agg [.int .i64 x.blocks,.int .i64 x.de,.int .i64 x.g,.slice z94 none 0,.slice PL xd i,.slice 1 pf fr.length],.int .i64 ((oz (l.take i):Nat):Int),.int .i64 (i:Int)]/\(PL=1\/xd=none)/\i<=l.length/\l.length-i<=c/\bm s4 t xd (ints ((l.take i).map (·.gen)))/\bm s4 t pa (ints BU)/\(∀b∈aO xd,b∉aO pa)) ?_ l.length n _ _ ⟨0,0,0,none,by rw[hm];rfl,.inr rfl,cz _,by omega,.nil J3.1,J3,λb hb=>by cases hb⟩ (by omega);rintro c y t ⟨i,z94,PL,xd,rfl,aiQ,hi,N6,AG,mq,N8⟩ CQ abV;rw[dT];simp only[av,Zg 2 z94 none _ (.inr rfl),Zg 1 PL xd _ aiQ,aX,aq];by_cases aw:i<l.length
 .have da:l[i]? =some l[i]:=cq aw
  have fZ:l.take (i+1)=l.take i++[l[i]]:=lV aw;generalize l[i]=s at da fZ;obtain⟨pi,po,e1,EF,ld1,_⟩:=EG t i s (hL.mono mq.1) da;have jm:(ints ((l.take i).map (·.gen))).length=i*1:=by rw[Zy,nQ,cX];omega
  rw[ax (by omega),ae,e1,bd,Zb (Zj aw)];simp only[bp];rw[ld1];simp only[bg];have ij:aB t (t++[some ⟨false,[.int .i64 s.gen]⟩]):= .new _ _;rw[Zz,jL (f:=false) (all:=[.int .i64 s.gen]) (by simp) (by simp),dK,dG (by simp)];obtain⟨pg6,u6,XL,ag6,agP,ag3⟩:=(AG.mono ij).tK (β:=ah) (sz:=1) (n:=i) (m:=1) (lim:=8796093022208) (ds:=[.int .i64 s.gen]) (by omega) jm rfl (by omega);rw[ag3];have ahJ:bm s4 u6 pa (ints BU):=(mq.mono ij).yh ag6 (λb hb c9=>N8 b c9 hb) XL.1;obtain⟨pi2,po2,e2,aiW,_,_⟩:=EG u6 i s (hL.mono XL.1) da;rw[e1]at e2;cases e2;rw[bd,Zb (Zj aw),aiW];simp only[tm];have GM:=Zsj (l.take i);rw[cX]at GM;have eu: ∀lv:Int,lv=((oz (l.take (i+1)):Nat):Int)->Ok (uJ st R) (CQ [.agg [.int .i64 x.blocks,.int .i64 x.de,.int .i64 x.g,.slice 2 none 0,.slice 1 pg6 (i+1),.slice 1 pf fr.length],.int .i64 lv,.int .i64 (ar ((i:Int)+1))] u6):=λlv eN=>by
   rw[Zc,eN];have halt:=mq.pE;refine abV (l.length-(i+1)) _ _ (by omega) ⟨i+1,2,1,pg6,rfl,.inl rfl,by omega,aQ _,?_,ahJ,λb hb c9=>?_⟩
   .rw[fZ,fA,show(List.map (·.gen) [s])=[s.gen]from rfl,Mn]
    exact XL
   .rcases agP b hb with h1|h1
    .exact N8 b h1 c9
    .have:=halt b c9
     have:=ij.len;omega
  have Eg:oz (l.take (i+1))=oz (l.take i)+(bif s.live then 1 else 0):=by rw[fZ,Zvd]
  rw[Za];cases eN:s.live with
  |true=>
   rw[eN,ae]at Eg;rw[ae];simp only[av,aq];exact eu _ (by rw[Zc,Eg];rfl)
  |false=>
   rw[eN,af,gV]at Eg;rw[af];simp only[av,aq];exact eu _ (by rw[Eg];rfl)
 rw[aF (by omega),af,kK];rw[dG (by omega)]at AG⊢;have jT:i=l.length:=by omega
 subst jT;clear kK aW CQ abV;show Ok (uJ st R) (ba [DV.agg _,DV.int .i64 _] _ t);rw[dT];simp only[av,aX,Zg 2 2 none _ (.inr rfl),aq];refine Ok.join λbz Ct=>?_
 have GM:=Zsj l;obtain⟨gs,yx⟩: ∃gs,l.map (·.gen)=gs:=⟨_,rfl⟩;have ahh:gs.length=l.length:=by rw[<-yx,nQ]
 rw[yx]at AG hR;rw[<-ahh];have ah7:aB s4 t:=mq.1;refine Zi _ (λc y u=>∃(i za zb zc zh:Nat) (pa ph:ai) (all:ak) (hs:List dO) (hd:ah) (lv:Int),y=[.agg (zz za zb zc),.slice 1 pa all.length,.agg [.int .i64 x.blocks,.int .i64 x.de,.int .i64 x.g,.slice zh ph hs.length,.slice 1 xd gs.length,.slice 1 pf fr.length],.int .i64 lv,.int .i64 (i:Int)]/\(zh=2\/ph=none)/\i<=qs.length/\qs.length-i<=c/\bm s4 u pa (ints all)/\bm s4 u ph hd/\hd.length=hs.length*2/\qB u (aO pa++aO ph) hd hs/\bm s4 u xd (ints gs)/\(∀b∈aO pa,b∉aO ph)/\(∀b∈aO xd,b∉aO pa/\b∉aO ph)/\iE im x.used l qs [] BU (oz l)=iE im x.used l (qs.drop i) hs all lv/\hs.length=i/\all.length<=300+4096*i/\(-4096*(i:Int)<=lv/\lv<=1792)) ?_ qs.length n _ _ ⟨0,0,0,0,2,pa,none,BU,[],[],((oz l:Nat):Int),rfl,.inr rfl,cz _,by omega,mq,.nil ah7,rfl,rfl,AG,λb hb c9=>(by cases c9),λb hb=>⟨N8 b hb,λc9=>by cases c9⟩,by rw[dK],rfl,by omega,by omega⟩ (by omega);clear N8 mq AG J3 he7;rintro c2 y2 u ⟨i,za,zb,zc,zh,pa,ph,all,hs,hd,lv,rfl,hzh,hi,N6,mq,XO,tY,hho,AG,tV,jb,AK,hhi,ajZ,eN⟩ dw j3;rw[dT];unfold zz;simp only[av,Zg 2 za none _ (.inr rfl),Zg 1 zb none _ (.inr rfl),Zg 1 zc none _ (.inr rfl),aX,aq];rw[dT];simp only[av,Zg 2 zh ph _ hzh,aX,aq];by_cases aw:i<qs.length
 .have da:qs[i]? =some qs[i]:=cq aw
  have fW:qs.drop i=qs[i]::qs.drop (i+1):=iV aw;have OK:=vg _ (kz aw);generalize qs[i]=q at da fW OK;have hQu:=hq6.mono mq.1;obtain⟨i7,o7,rfl⟩:=hQu.cH (by rw[IT vg];omega);rw[fW]at AK;rw[ax (by omega),ae];refine Ok.join λiC ahp=>?_
  rw[bd,Zb (Zj aw)];simp only[bp];rw[show i*14+o7+2=i*14+2+o7 by omega,hQu.yi (k:=i*14+2) (n:=12) (by rw[IT vg];omega),Zv8 vg da,bI (by rw[Zy];exact OK.1)];refine Ok.call (ZoW n im q.dz u Xw OK.1 (by omega)) ?_;rintro o ⟨u1,J8,ho⟩;have Ow:=mq.mono J8;have eu:iE im x.used l (q::qs.drop (i+1)) hs all lv=(match uV im q.dz with
   |none=>none
   |some (es,ns)=>bif ji x.used l es ns then iE im x.used l (qs.drop (i+1)) (hs++[⟨q.name,Z8 es⟩]) (all++ns) (lv-es.length)else none):=rfl
  have fail: ∀u',aB s4 u'->iE im x.used l (q::qs.drop (i+1)) hs all lv=none->Ok (uJ st R) ((bZ st.length [.agg [.int .i64 0,.int .i64 0,.int .i64 0,.slice 0 none 0,.slice 0 none 0,.slice 0 none 0],.slice 0 none 0,.bool false]:M ah) u'):=λu' hp hf=>NC u' hp (by rw[AK,hf]at hR;exact hR.symm)
  cases WG:uV im q.dz with
  |none=>
   rw[WG]at ho eu;simp only at ho;subst ho;refine⟨_,u1,rfl,?_⟩;simp only[Zg 4 0 none _ (.inr rfl),Zg 1 0 none _ (.inr rfl),au,aq];rw[bn,ae];exact fail u1 Ow.1 eu
  |some qq=>
  obtain⟨es,ns⟩:=qq;rw[WG]at ho eu;obtain⟨p68,p69,rfl,hE,hN,hNn,hEn⟩:=ho;simp only at eu;refine⟨_,u1,rfl,?_⟩;simp only[aX,au,aq];rw[br,af];obtain⟨fo1,fo2,fo3⟩:=Zvx WG OK.1;have hL1:=hL.mono Ow.1;refine Ok.join λiD abC=>?_
  refine Zi _ (λc y v=>∃(k za zb zc:Nat),y=[.agg (zz za zb zc),.int .i64 (k:Int)]/\k<=es.length/\es.length-k<=c/\v=u1/\ji x.used l es ns=ji x.used l (es.drop k) (ns.drop k)) ?_ es.length n _ _ ⟨0,2,1,1,rfl,cz _,by omega,rfl,by rw[dK,dK]⟩ (by omega);rintro c3 y3 v ⟨k,za,zb,zc,rfl,hk,jS,rfl,pj⟩ vH OM;rw[dT];unfold zz;simp only[av,Zg 2 za none _ (.inr rfl),Zg 1 zb none _ (.inr rfl),Zg 1 zc none _ (.inr rfl),aq];by_cases fY:k<es.length
  .have tX:es[k]? =some es[k]:=cq fY
   have hem:=fo1 _ (kz fY);generalize es[k]=e at tX hem;have rh:ns[k]? =some (ns.getD k 0):=by
    rw[cq (by omega),dW,cq (by omega)];rfl
   have abx:(ints ns)[k]? =some (.int .i64 (ns.getD k 0)):=zM;generalize ns.getD k 0=w at rh abx;have D9:=ZwI x.used l tX rh;rw[D9]at pj;obtain⟨i10,o10,e68⟩:=hE.cH (by rw[Zt];omega);obtain⟨i12,o12,e69⟩:=hN.cH (by rw[Zy];omega);rw[e68]at hE;rw[e69]at hN;rw[ax (by omega),ae,e68,bd,Zb (Zj fY)];simp only[bp];rw[hE.yi (k:=k*4) (n:=2) (by rw[Zt];omega),ZxP tX];simp only[av,aq];rw[Za];have K9:jR x.used l e w=false->Ok (uJ st R) ((bZ st.length [.agg [.int .i64 0,.int .i64 0,.int .i64 0,.slice 0 none 0,.slice 0 none 0,.slice 0 none 0],.slice 0 none 0,.bool false]:M ah) v):=λhb=>by
    rw[hb,af]at pj;rw[pj,af]at eu;exact fail v Ow.1 eu
   by_cases G8:e.slot>=x.used
   .rw[ax G8,ae]
    simp only[au,aq];rw[ae];exact K9 (by unfold jR;rw[ax G8];rfl)
   .obtain⟨sl,dA⟩: ∃sl:Nat,e.slot=(sl:Int):=⟨e.slot.toNat,by omega⟩
    have aiu:sl<l.length:=by omega
    have Xq:l[sl]? =some l[sl]:=cq aiu;generalize l[sl]=s at Xq;obtain⟨pi,po,e1,_,_,ldc⟩:=EG v sl s hL1 Xq;have pY:jR x.used l e w=((s.live==true)&&((s.gen==e.gen)&&((s.block==w)&&true))):=by
     unfold jR;rw[aF G8,dA,bp,Xq];rfl
    rw[aF G8,af,e1,bd,dA,Zb (Zj)];simp only[bp];rw[ldc];unfold eL;simp only[au,av,aq];rw[e69,bd,Zb (Zj (show k<ns.length by omega)),hN.dJ abx];simp only[bg,au,aq];rw[<-pY];cases abn:jR x.used l e w with
    |false=>
     rw[bn,ae];exact K9 abn
    |true=>
     rw[abn,ae]at pj;rw[br,af,Zc];exact OM (es.length-(k+1)) _ _ (by omega) ⟨k+1,2,1,1,rfl,by omega,aQ _,rfl,pj⟩
  rw[aF (by omega),af,abC];rw[lU (by omega)]at pj;have ag7:ji x.used l es ns=true:=pj;rw[ag7,ae]at eu;clear OM vH abC iD pj;show Ok (uJ st R) (ba [DV.agg _] _ v);rw[dT];simp only[av,aX,aq];have r9: ∀K:ah->M ah,dy p69 (ns.length*1) K v=K (ints ns) v:=λK=>by
   have:=iR hN K;rwa [Zy,<-cR ns.length]at this
  rw[r9];have ah0:=mq.pE;have XU:=XO.pE;have abS:=AG.pE;have huv:=J8.len;obtain⟨KS,u2,du,mU,c9,vj⟩:=Ow.tK (β:=ah) (sz:=1) (n:=all.length) (m:=ns.length) (lim:=8796093022208) (ds:=ints ns) (by omega) (by rw[Zy,cR]) (by rw[Zy,cR]) (by omega);rw[vj];have akx:=mU.1;have hQ2:=hq6.mono du.1;have wQ:(um qs)[i*14]? =some (.str q.name):=by
   have:=M5 vg da 0 (by omega);rw[gV]at this;rw[this];rfl
  rw[bd,Zb (Zj aw)];rw[hQ2.get wQ];simp only[zB];have hE2:Sl u2 p68 (bY es):=hE.fx mU (zX λb hb c9=>by have:=hEn b hb;have:=ah0 b c9;omega);refine Ok.NI (ZoN n es 4 p68 u2 (.inl rfl) hE2 (by omega) (by omega)) ?_;rintro _ ⟨yW,u3,rfl,GY,D3,hSn⟩;refine⟨_,u3,rfl,GY,?_⟩;simp only[aX,aq];have ij:aB u3 (u3++[some ⟨false,mj ⟨q.name,Z8 es⟩ 4 yW⟩]):= .new _ _;have hhz:([.str q.name,.slice 4 yW (Z8 es).length]:ah)=mj ⟨q.name,Z8 es⟩ 4 yW:=rfl;rw[hhz,Zz,jL (f:=false) (all:=mj ⟨q.name,Z8 es⟩ 4 yW) (by simp) (by show 0+2<=2;omega),dK,dG (show(mj _ _ _).length<=2 from aQ _)];have abU:aB s4 u2:=du.1;have ahM:bm s4 (u3++[some ⟨false,mj ⟨q.name,Z8 es⟩ 4 yW⟩]) ph hd:=(((XO.mono J8).yh mU (λb hb c9=>tV b c9 hb) abU).mono GY).mono ij;have ahL:bm s4 (u3++[some ⟨false,mj ⟨q.name,Z8 es⟩ 4 yW⟩]) xd (ints gs):=(((AG.mono J8).yh mU (λb hb c9=>(jb b hb).1 c9) abU).mono GY).mono ij;obtain⟨ph5,u5,qb,mV,D4,JE⟩:=ahM.tK (β:=ah) (sz:=2) (n:=hs.length) (m:=1) (lim:=1759218604441) (ds:=mj ⟨q.name,Z8 es⟩ 4 yW) (by omega) tY rfl (by omega);rw[JE,ahp];have aku:=GY.len;have akv:=ij.len;have abR:=du.pE;have hSl:=D3.pE;have hFL:Fx (aO pa++aO ph) u u5:=(Fx.pre _ J8).trans ((mU.mono λb hb=>List.mem_append_left _ hb).trans ((Fx.pre _ (GY.trans ij)).trans (mV.mono λb hb=>Lh _ hb)));have abk: ∀b∈aO KS,b∉aO ph:=λb hb oj=>by
   rcases c9 b hb with h1|h1
   .exact tV b h1 oj
   .have:=XU b oj;omega
  have ahI:bm s4 u5 KS (ints all++ints ns):=((du.mono GY).mono ij).yh mV abk qb.1;have ahj:=hho.fx (L':=aO KS++aO ph5) hFL λb hb=>by
   rcases gx.1 hb with hb|hb
   .rcases c9 b hb with h1|h1
    .exact .inl (List.mem_append_left _ h1)
    omega
   .rcases D4 b hb with h1|h1
    .exact .inl (Lh _ h1)
    omega
  have Gr:Sl u5 yW (bY (Z8 es)):=(D3.mono ij).fx mV (zX λb hb oj=>by have:=hSn b hb;have:=XU b oj;omega);have ahk:=ahj.push (x:=⟨q.name,Z8 es⟩) (z:=4) (p:=yW) (.inl rfl) Gr (zX λb hb oj=>by
   have h1:=hSn b hb;have h2:=hSl b hb;rcases gx.1 oj with oj|oj
   .have:=abR b oj;omega
   .rcases D4 b oj with h3|h3
    .have:=XU b h3;omega
    .omega)
  show Ok (uJ st R) (ba [DV.agg _,DV.slice 1 KS _,DV.agg _,DV.int .i64 _] _ u5);rw[dT];simp only[av,aX,aq];rw[dT];simp only[av,aX,aq];rw[Zc (x:=lv-(es.length:Int)),Zc];refine j3 (qs.length-(i+1)) _ _ (by omega) ⟨i+1,2,1,1,2,KS,ph5,all++ns,hs++[⟨q.name,Z8 es⟩],hd++mj ⟨q.name,Z8 es⟩ 4 yW,lv-es.length,?_,.inl rfl,by omega,aQ _,by rw[M3];exact ahI,qb,?_,ahk,ahL.yh mV (λb hb oj=>(jb b hb).2 oj) qb.1,λb hb oj=>?_,λb hb=>⟨λoj=>?_,λoj=>?_⟩,?_,?_,?_,by omega⟩
  .rw[bB,bB,iK]
   rfl
  .rw[bB,bB,iK,tY]
   show _+2=_;omega
  .rcases D4 b oj with h1|h1
   .exact abk b hb h1
   .have:=abR b hb;omega
  .rcases c9 b oj with h1|h1
   .exact(jb b hb).1 h1
   .have:=abS b hb;omega
  .rcases D4 b oj with h1|h1
   .exact(jb b hb).2 h1
   .have:=abS b hb;omega
  .rw[AK,eu]
  .rw[bB,iK,hhi]
  .rw[bB];omega
 rw[aF (by omega),af,Ct];rw[lU (by omega)]at AK;have aiJ:iE im x.used l qs [] BU (oz l)=some (hs,all,lv):=AK;rw[aiJ]at hR;simp only at hR;clear j3 dw Ct bz AK;show Ok (uJ st R) (ba [DV.agg _,DV.slice 1 pa _,DV.agg _,DV.int .i64 _] _ u);rw[dT];simp only[av,aX,aq];rw[dT];simp only[av,aX,aq];rw[Zz];obtain⟨u9,Yd⟩: ∃u9,u++[some (⟨false,[.int .i64 0,.int .i64 1]⟩:bO)]=u9:=⟨_,rfl⟩;have XX:aB u u9:=by rw[<-Yd];exact .new _ _
 have hr9:Sl u9 (some (u.length,0)) (ints [0,1]):=⟨false,[.int .i64 0,.int .i64 1],by rw[<-Yd];simp,by simp[ints],by simp[ints]⟩;rw[Yd];refine Ok.join λck Cu=>?_
 refine Zi _ (λc y v=>∃(k za zb zc zr:Nat) (pr:ai) (r:ak),y=[.agg (zz za zb zc),.slice zr pr r.length,.int .i64 (k:Int)]/\(zr=1\/pr=none)/\k<=all.length/\all.length-k<=c/\aB u9 v/\Sl v pr (ints r)/\kB r/\r.length<=k+2/\pV x.blocks all [0,1]=pV x.blocks (all.drop k) r) ?_ all.length n _ _ ⟨0,2,1,1,1,some (u.length,0),[0,1],rfl,.inl rfl,cz _,by omega,.refl _,hr9,(by unfold kB;simp),aQ _,by rw[dK]⟩ (by omega);rintro c4 y4 v ⟨k,za2,zb2,zc2,zr,pr,r,rfl,Kz,hk,jS,vx,Kj,Kg,Cy,GZ⟩ aV aif;rw[dT];unfold zz;simp only[av,Zg 2 za2 none _ (.inr rfl),Zg 1 zb2 none _ (.inr rfl),Zg 1 zc2 none _ (.inr rfl),Zg 1 zr pr _ Kz,aq];have J9:aB s4 v:=mq.1.trans (XX.trans vx);have Ce:=mq.sl.mono (XX.trans vx);by_cases fY:k<all.length
 .have fW:=I3 fY
  obtain⟨w,hw⟩: ∃w,all.getD k 0=w:=⟨_,rfl⟩;rw[hw]at fW;have rh:(ints all)[k]? =some (.int .i64 w):=by rw[<-hw];exact zM fY
  obtain⟨i3,o3,e3⟩:=Ce.cH (by rw[Zy];omega);rw[e3]at Ce;rw[fW]at GZ;have eu:pV x.blocks (w::all.drop (k+1)) r=bif decide (w<2)then none else(bif decide (w∈r)then none else pV x.blocks (all.drop (k+1)) (yI x.blocks r w)):=rfl;have fail:pV x.blocks (w::all.drop (k+1)) r=none->Ok (uJ st R) ((bZ st.length [.agg [.int .i64 0,.int .i64 0,.int .i64 0,.slice 0 none 0,.slice 0 none 0,.slice 0 none 0],.slice 0 none 0,.bool false]:M ah) v):=λhf=>NC v J9 (by rw[GZ,hf]at hR;exact hR.symm)
  rw[ax (by omega),ae,e3,bd,Zb (Zj fY)];simp only[bp];rw[Ce.dJ rh];simp only[bg];rw[Za];by_cases fR:w<2
  .rw[ax fR,ae]at eu
   rw[ax fR,ae];simp only[au,aq];rw[ae];exact fail eu
  .rw[aF fR,af]at eu
   rw[aF fR,af,bd,Zb (Zj fY),Ce.dJ rh];simp only[bg];refine Ok.call (Br n 1 r w pr v (.inl rfl) Kj) ?_;rintro _ rfl;refine⟨_,v,rfl,?_⟩;simp only[au,aq];cases hwr:decide (w∈r)with
   |true=>
    rw[hwr,ae]at eu;rw[ae];exact fail eu
   |false=>
    rw[hwr,af]at eu;rw[af,bd,Zb (Zj fY),Ce.dJ rh];simp only[bg];refine Ok.call (Ti n r 1 pr x.blocks w v (.inl rfl) Kj Kg) ?_;rintro _ ⟨p2,r2,v2,rfl,ah9,aio,ik,fu⟩;refine⟨_,v2,rfl,?_⟩;simp only[aX,aq];obtain⟨c1,c2⟩:=Nb (m:=x.blocks) (a:=w) Kg;have aid:r2=yI x.blocks r w:=Fy ik c1 λb=>by rw[fu,c2]
    have aie:r2.length<=(w::r).length:=xO ik.nodup λb hb=>by
     rcases(fu b).1 hb with h1|h1
     .exact zs _ h1
     .rw[h1.1];exact uq
    rw[cO]at aie;rw[Zc];exact aif (all.length-(k+1)) _ _ (by omega) ⟨k+1,2,1,1,1,p2,r2,rfl,.inl rfl,by omega,aQ _,vx.trans ah9,aio,ik,by omega,by rw[GZ,eu,aid]⟩
 rw[aF (by omega),af,Cu];rw[lU (by omega)]at GZ;have aih:pV x.blocks all [0,1]=some r:=GZ;rw[aih]at hR;simp only at hR;show Ok (uJ st R) (ba [DV.agg _,DV.slice 1 pr _] _ v);rw[dT];simp only[av,aX,aq];rw[Za,Zc (x:=((all.length:Nat):Int)+2)];have aij:(((r.length:Nat):Int)==((all.length:Nat):Int)+2)=decide (r.length=all.length+2):=nn r.length (all.length+2) _;cases abF:(lv==0)with
 |false=>
  rw[abF,af]at hR;rw[bn,ae];simp only[au,aq];rw[ae];exact NC v J9 hR.symm
 |true=>
  rw[abF,ae]at hR;rw[br,af,aij];simp only[au,aq];cases jy:decide (r.length=all.length+2)with
  |false=>
   rw[jy,af]at hR;rw[bn,ae];exact NC v J9 hR.symm
  |true=>
   rw[jy,ae]at hR;rw[br,af,Zp];refine .mk ⟨_,Zr (En.trans J9),?_⟩;rw[<-hR];have XY:=XX.trans vx;have hhh:=hho.aM.mono XY;refine⟨2,ph,xd,pf,pr,rfl,.inl rfl,⟨⟨hd,(XO.sl.mono XY).dQ _,?_⟩,(AG.sl.mono XY).dQ _,(hFs.mono J9).dQ _⟩,Kj.dQ _⟩;exact Zrk _ hhh
end Go.Gv.F
