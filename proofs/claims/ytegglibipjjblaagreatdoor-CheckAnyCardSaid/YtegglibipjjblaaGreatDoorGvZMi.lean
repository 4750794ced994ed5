/- Numbers and blocks, read (the document's). -/
import Derived.Test.YtegglibipjjblaaGreatDoorGvZMg
set_option linter.all false
namespace Go.Gv.F
open Go.Gv
variable {β:Type}
variable {Bd:Zh} [h:HA Bd]
theorem Zph (n:Nat) (s:aj) (st:St) (hl:s.length<=8) (hn:s.length+3<=n):Ok (λo=>o=(.val [.w (ez s:Int)],st)) (run Bd n 310 [.t s] st):=by
 obtain _|n:=n;omega;rw[Ze,h.agc];unfold Rg jK BU zS lg ZC
 try dsimp only
 rw[bR,aq];refine Ok.join λaz nB=>?_
 have key: ∀i,i<=s.length->ez (s.drop i)<256^(s.length-i):=λi hi=>by
  have:=Ga (s.drop i);rwa [fa]at this
 refine Zi _ (λq y t=>∃i:Nat,y=[.w ((ez (s.drop i):Nat):Int),.i ((i:Int)-1)]/\i<=s.length/\i<=q/\t=st) ?_ s.length n _ _ ⟨s.length,by rw[List.drop_length,Zc];rfl,aO _,aO _,rfl⟩ (by omega);rintro q y t ⟨i,rfl,hi,hq,rfl⟩ rec aN;simp only[av,aq];by_cases h0:i=0
 .subst h0
  rw[aF (by omega),af,nB];simp only[av,aq,Zd];exact .mk rfl
 .rw[ax (show(i:Int)-1>=0 by omega),ae,Za,ax (show(i:Int)-1<8 by omega),ae]
  obtain⟨j,rfl⟩: ∃j,i=j+1:=⟨i-1,by omega⟩;have hj:j<s.length:=by omega
  rw[show((j+1:Nat):Int)-1=(j:Int) by omega,Zb (Zj hj)];simp only[av,aq];have hd:s.drop j=s[j]::s.drop (j+1):=iV hj;have aw:=key (j+1) (by omega);have hp:256^(s.length-(j+1))<=256^7:=nT (by decide) (by omega);have h7:(256:Nat)^7=72057594037927936:=by decide
  have hb:ZS s (j:Int)=(s[j].toNat:Int):=by
   unfold ZS;rw[bp,dW,cq hj];rfl
  have hsj:=s[j].toNat_lt;rw[hb,IntWalk.u64_in (((ez (s.drop (j+1)):Nat):Int)*256) (by omega),IntWalk.u64_in (s[j].toNat:Int) (by omega),IntWalk.u64_in _ (by omega),Zc];refine aN j _ _ (by omega) ⟨j,?_,by omega,aO _,rfl⟩;rw[hd];show _=[DV.w ((s[j].toNat+256*ez (s.drop (j+1)):Nat):Int),_];rw[show((ez (s.drop (j+1)):Nat):Int)*256+(s[j].toNat:Int)=((s[j].toNat+256*ez (s.drop (j+1)):Nat):Int) by omega]
theorem xB (n:Nat) (s:aj) (st:St) (hl:s.length<=8) (hn:12<=n:=by omega):run Bd n 292 [.t s] st=some (.val [.i (ar (ez s:Int))],st):=by
 obtain _|n:=n;omega;rw[Ze,h.afZ];unfold Tq jK uT Ls Li
 try dsimp only
 rw[bR,aq];obtain⟨o,e,rfl⟩:=Zph n s st hl (by omega);rw[Zk e];rfl
variable {m top w:Int} {es:List bh} {l:List bw} {d i j k k' lim n sz t t' v:Nat} {s s' s0:St} {cs ds:ah} {b' img:aj} {ns pg r:ak} {T:al} {e:bh}
theorem zU (b:aj) {a:Nat} :ar ((ez ((b.take (a+k)).drop a):Nat):Int)=bN b a k:=by
 simp[bN,rd,C9]
theorem zQ {b:aj} {a:Nat} (hk:k<=8:=by omega):((b.take (a+k)).drop a).length<=8:=by
 rw[fa,cX];omega
theorem Zu7 {l:aj} (qY:l.length=64) (h4:l.getD 4 0≠0):(iS ((l.getD 4 0).toNat:Nat) ((l.getD 5 0).toNat:Nat) (l.drop 8)==l)=tK l:=by
 rw[lE,uA];constructor
 .intro e
  have hk:0<(l.getD 4 0).toNat:=by
   rcases Bi (l.getD 4 0).toNat with h|h
   .exact absurd (HK.1 (by grind)) h4
   .exact h
  have:=MA hk (UInt8.toNat_lt _) (UInt8.toNat_lt (l.getD 5 0)) (b:=l.drop 8) (by rw[fa];omega);rw[e]at this;grind[fM]
 .intro hr
  have:fM l=some ((l.getD 4 0).toNat,(l.getD 5 0).toNat,l.drop 8):=by
   grind[fM]
  exact(sd this).1.symm
def yT (l:aj):ah:=match fM l with
 |none=>[.i 0,.i 0,.t [],.b false]
 |some (k,t,b)=>[.i (k:Int),.i (t:Int),.t b,.b true]
theorem FD (n:Nat) (p:ai) (l:aj) (st:St) (hs:dc st p l) (hl:l.length=64) (hn:300<=n:=by omega):
  Ok (λo=>∃s',o=(.val (yT l),s')/\aB st s') (run Bd n 291 [.s 1 p 64] st):=by
 obtain _|n:=n;omega;rw[Ze,h.afY];unfold SD bV aA mS jw Lb pQ
 try dsimp only
 rw[aX,aq];obtain⟨i,o,rfl⟩:=hs.cH (by omega);have g4:l[4]? =some (l.getD 4 0):=by rw[dW,cq (by omega)];rfl
 have g5:l[5]? =some (l.getD 5 0):=by rw[dW,cq (by omega)];rfl
 have hw: ∀c:UInt8,ar (c.toNat:Int)=(c.toNat:Int):=λc=>by
  have:=c.toNat_lt;exact Zc
 have YI: ∀(K:DV->M ah) (t:St),dc t (some (i,o)) l->bD i (4+o) K t=K (.u (l.getD 4 0).toNat) t:=λK t ht=>ht.get g4 K
 have ld5: ∀(K:DV->M ah) (t:St),dc t (some (i,o)) l->bD i (5+o) K t=K (.u (l.getD 5 0).toNat) t:=λK t ht=>ht.get g5 K
 have r8: ∀(K:ah->M ah) (t:St),dc t (some (i,o)) l->dy (cU true (some (i,o)) 8) (64-8) K t=K (bU (l.drop 8)) t:=λK t ht=>by
  have h8:=ht.cU (k:=8) (by omega);have:=iR (show Sl _ _ (bU (l.drop 8))from h8) K;rwa [Zu,fa,hl]at this
 have rl: ∀(K:ah->M ah) (t:St),dc t (some (i,o)) l->dy (some (i,o)) 64 K t=K (bU l) t:=λK t ht=>by
  have:=iR (show Sl _ _ (bU l)from ht) K;rwa [Zu,hl]at this
 have bad:tK l=false->∀s',aB st s'->Ok (λo=>∃s',o=(.val (yT l),s')/\aB st s') ((ay [.i 0,.i 0,.t (bs []),.b false]:M ah) s'):=λhr s' hp=>by
  rw[Zd];refine .mk ⟨s',?_,hp⟩;grind[yT,fM]
 rw[Za,show(!(((64:Nat):Int)==64))=false from rfl,af,bd,Zb (by rfl),YI _ _ hs];simp only[bg,au,aq];rw[Za];by_cases h4:l.getD 4 0=0
 .rw[h4,show((((0:UInt8).toNat:Nat):Int)==0)=true from rfl,ae]
  simp only[au,aq];rw[ae];refine bad ?_ st (.refl _);grind[tK]
 .have h40:((((l.getD 4 0).toNat:Nat):Int)==0)=false:=eG.2 λe=>h4 (HK.1 (by grind))
  rw[h40,af,bd,Zb (by rfl),YI _ _ hs];rw[bg];rw[bd,Zb (by rfl),ld5 _ _ hs];rw[bg];rw[Zb (ax (by omega)),r8 _ _ hs,<-lr,oJ,hw,hw];refine Ok.cx (By n _ _ (l.drop 8) (by rw[fa];omega) st (by rw[fa];omega)) λs1 aH=>?_
  have eX:=hs.mono aH;rw[bR,aq];rw[rl _ _ eX,<-lr,oJ,Zu7 hl h4];simp only[au,aq];cases hr:tK l with
  |false=>
   rw[bn,ae];exact bad hr s1 aH
  |true=>
   rw[bu,af,bd,Zb (show aR 4 64=true from rfl),YI _ _ eX];rw[bg];rw[bd,Zb (show aR 5 64=true from rfl),ld5 _ _ eX];rw[bg];rw[Zb (ax (by omega)),r8 _ _ eX,<-lr,oJ,hw,hw,Zd];refine .mk ⟨s1,?_,aH⟩;unfold yT fM;rw[hr];rfl
theorem FW {b:aj} (lO:0<k) (hk:k<256) (ht:t<256) (ahD:0<k') (nC:k'<256) (wV:t'<256) (h:b.length<=56) (h':b'.length<=56:=by omega):iS k t b=iS k' t' b'↔k=k'/\t=t'/\jR b 56=jR b' 56:=by
 constructor
 .intro e
  have h1:=MA lO hk ht h;rw[e,MA ahD nC wV h']at h1;grind
 .grind[iS,pF]
theorem Io {b:aj} (h:b.length=56):jR b 56=b:=by
 simp_all[jR,mc]
theorem Im {b:aj} (h:b.length=56) (hn:n<=56:=by omega):jR (b.take n) 56=b↔ZE (b.drop n)=true:=by
 have hl:(b.take n).length=n:=by rw[cX];omega
 have hd:(b.drop n).length=56-n:=by rw[fa];omega
 unfold jR;rw[hl];constructor
 .intro e
  have:b.drop n=mc (56-n):=by
   have h1:=rS n b;rw[<-e]at h1;grind
  rw[this];exact ZkK _
 .intro e
  have:=Uo e;rw[hd]at this;rw[<-this,rS]
theorem Zzq (h:v<18446744073709551616):eZ (ar (v:Int))=v:=by
 grind[eZ,ar,IntKind.wrap_i64]
theorem pX {b:aj} {a:Nat} (hk:k<=8:=by omega) (h:a+k<=b.length:=by omega):db (eZ (bN b a k)) k=(b.drop a).take k:=by
 unfold bN;have aw:=PB b a k;have hp:256^k<=256^8:=nT (by decide) hk;have h8:(256:Nat)^8=18446744073709551616:=by decide
 rw[Zzq (by omega)];unfold rd;have hl:((b.drop a).take k).length=k:=by rw[cX,fa];omega
 have:=M5 ((b.drop a).take k);rwa [hl]at this
theorem Zrk (b:aj) (a m k:Nat):(b.drop a).take m++(b.drop (a+m)).take k=(b.drop a).take (m+k):=by
 rw[nc,kW]
theorem H7 {b:aj} {a:Nat} : ∀(n:Nat),a+2*n<=b.length->js ((List.range n).map λj=>bN b (a+2*j) 2)=(b.drop a).take (2*n)
 |0,_=>rfl
 |n+1,h=>by
  have e:js ((List.range (n+1)).map λj=>bN b (a+2*j) 2)=js ((List.range n).map λj=>bN b (a+2*j) 2)++db (eZ (bN b (a+2*n) 2)) 2:=by
   simp[js,qy,fq,HC]
  rw[e,H7 n (by omega),pX,Zrk,show 2*n+2=2*(n+1) by omega]
theorem ZtO {b:aj} (h:2*n<=b.length:=by omega):js (dU b n)=b.take (2*n):=by
 have:=H7 (b:=b) (a:=0) n (by omega);rw[dK]at this;rw[<-this];simp[dU]
theorem Zpn {b:aj} (t:Nat): ∀(n:Nat),8*n<=b.length->od (ZR b t n)=b.take (8*n)
 |0,_=>rfl
 |n+1,h=>by
  have app: ∀(l:List bw) (x:bw),od (l++[x])=od l++(db (eZ x.gen) 4++db (eZ x.block) 4):=λl x=>by
   induction l with
   |nil=>simp[od]
   |cons y l ih=>simp[od,ih]
  rw[Il,app,Zpn t n (by omega)];show _++(db (eZ (bN b (8*n) 4)) 4++db (eZ (bN b (8*n+4) 4)) 4)=_;rw[pX,pX,Zrk b (8*n) 4 4,show 8*(n+1)=8*n+8 by omega];grind
theorem Zsv: ∀(l:List bw) (x:bw) (k:Nat),j9 k (l++[x])=j9 k l+(bif x.live then 2^(k+l.length)else 0)
 |[],x,k=>by simp[j9]
 |y::l,x,k=>by
  rw[nQ];unfold j9;rw[Zsv l x (k+1),cO,show k+1+l.length=k+(l.length+1) by omega];omega
theorem Ztj (b:aj) (t:Nat): ∀n,j9 0 (ZR b t n)=t%2^n
 |0=>by simp[ZR,j9,Nat.mod_one]
 |n+1=>by
  rw[Il,Zsv,Ztj b t n,BE,eO];show t%2^n+(bif eE t n then 2^n else 0)=_;have h:=Nat.mod_pow_succ (b:=2) (k:=n) (x:=t);rw[h];grind[eE]
theorem ZwQ {b:aj} (h:b.length=56) (ht:t<=12):Po (l9 b t)=b.take (24+2*t):=by
 unfold Po l9 oP;simp only;rw[pX,pX,pX,pX,H7 t (by omega),dK];have e1:b.take 8++(b.drop 8).take 8=b.take 16:=by rw[<-nc]
 have e2:b.take 16++(b.drop 16).take 4=b.take 20:=by rw[<-nc]
 have e3:b.take 20++(b.drop 20).take 4=b.take 24:=by rw[<-nc]
 rw[e1,e2,e3,<-nc]
theorem Zva {b:aj} (h:b.length=56) (ht:t<=28):db (eZ ((Z9 b t).mask:Int)) 4++js (Z9 b t).dz++(Z9 b t).name=b.take (28+t):=by
 unfold Z9 ZZ;simp only;have aw:=PB b 0 4;have e0:((rd b 0 4:Nat):Int)=bN b 0 4:=by
  unfold bN;exact(Zc (by omega) (by have:(256:Nat)^4=4294967296:=(by decide);omega)).symm
 rw[e0,pX,H7 12 (by omega),dK];have e1:b.take 4++(b.drop 4).take (2*12)=b.take 28:=by rw[<-nc]
 rw[e1,<-nc]
theorem Zl6 (k:Int):jO k=ll k 2 3071:=by
 simp[jO,ll]
theorem ZvV (x:bw):xi x=ZK x:=by
 unfold xi ZK;rw[Zl6];cases x.live with
 |true=>
  rw[ae,ae];grind[ll]
 |false=>
  rw[af,af];grind[ll]
theorem Zwa {l b:aj} (ho:fM l=some (3,t,b)):iM l=(bif (match uU (dU b 16)with|none=>false|some c=>c==l)then some (dU b 16)else none):=by
 have⟨h1,h2,h3,h4⟩:=sd ho;have hr:BF (dU b 16)=(dU b 16).all λk=>k==0||jO k:=by
  simp[BF,Zl6]
 unfold iM uU;rw[ho,<-hr];simp only;cases hrf:BF (dU b 16)with
 |false=>
  rw[af,af];simp
 |true=>
  rw[ae,ae];have key:(iS 3 0 (js (dU b 16))==l)=(decide (t=0)&&ZE (b.drop 32)):=by
   rw[ZtO,lE,uA,aY,br]
   conv=>lhs;rhs;rw[h1]
   have:=FW (k:=3) (t:=0) (k':=3) (t':=t) (b:=b.take (2*16)) (b':=b) (by omega) (by omega) (by omega) (by omega) (by omega) h4 (by rw[cX];omega);rw[show((3:Nat):Int)=3 from rfl,show((0:Nat):Int)=0 from rfl]at this;rw[show((3:Nat):Int)=3 from rfl,this,Io h2,Im h2];grind
  grind
theorem ZvM {l b:aj} (ho:fM l=some (2,t,b)):ZL l=(bif (match xJ (ZR b t 7)with|none=>false|some c=>c==l)then some (ZR b t 7)else none):=by
 have⟨h1,h2,h3,h4⟩:=sd ho;have hr:(ZR b t 7).all ZK=(ZR b t 7).all xi:=by
  grind[ZvV]
 unfold ZL xJ;rw[ho];simp only;rw[hr];cases hrf:(ZR b t 7).all xi with
 |false=>
  rw[af,af];simp
 |true=>
  rw[ae,ae];have key:(iS 2 ((j9 0 (ZR b t 7):Nat):Int) (od (ZR b t 7))==l)=decide (t<128):=by
   rw[Zpn t 7 (by omega),Ztj,lE,uA,br]
   conv=>lhs;rhs;rw[h1]
   have:=FW (k:=2) (t:=t%2^7) (k':=2) (t':=t) (b:=b.take (8*7)) (b':=b) (by omega) (by omega) (by omega) (by omega) (by omega) h4 (by rw[cX];omega);rw[show((2:Nat):Int)=2 from rfl]at this;rw[show((2:Nat):Int)=2 from rfl,this,dG (show b.length<=8*7 by omega)];simp
  grind
theorem Zv0 {l b:aj} (ho:fM l=some (1,t,b)) (ht:t<=12):iY l=(bif oS (l9 b t)&&xe (l9 b t)==l then some (l9 b t)else none):=by
 have⟨h1,h2,h3,h4⟩:=sd ho;have key:(xe (l9 b t)==l)=ZE (b.drop (24+2*t)):=by
  have fY:(l9 b t).kids.length=t:=Dv b t;unfold xe;rw[ZwQ h2 ht,fY,lE,uA]
  conv=>lhs;rhs;rw[h1]
  have:=FW (k:=1) (t:=t) (k':=1) (t':=t) (b:=b.take (24+2*t)) (b':=b) (by omega) (by omega) h4 (by omega) (by omega) h4 (by rw[cX];omega);rw[show((1:Nat):Int)=1 from rfl]at this;rw[show((1:Nat):Int)=1 from rfl,this,Io h2,Im h2];simp
 grind[iY]
theorem Zui {l b:aj} (ho:fM l=some (5,t,b)) (ht:t<=28):ZJ l=(bif mQ (Z9 b t)&&yW (Z9 b t)==l then some (Z9 b t)else none):=by
 have⟨h1,h2,h3,h4⟩:=sd ho;have OE:(Z9 b t).name.length=t:=by
  show((b.drop 28).take t).length=t;rw[cX,fa];omega
 have key:(yW (Z9 b t)==l)=ZE (b.drop (28+t)):=by
  unfold yW;rw[Zva h2 ht,OE,lE,uA]
  conv=>lhs;rhs;rw[h1]
  have:=FW (k:=5) (t:=t) (k':=5) (t':=t) (b:=b.take (28+t)) (b':=b) (by omega) (by omega) h4 (by omega) (by omega) h4 (by rw[cX];omega);rw[show((5:Nat):Int)=5 from rfl]at this;rw[show((5:Nat):Int)=5 from rfl,this,Io h2,Im h2];simp
 unfold ZJ;rw[ho,key];simp only;cases hr:mQ (Z9 b t)with
 |false=>
  rw[af,gf,af];simp
 |true=>
  have h24:t<=24:=by
   have h5:=hr;unfold mQ at h5;rw[aY]at h5;have:=ZvE h5.1;omega
  rw[ax h24];simp
theorem Zxs (l:ak):DE l=(decide (1<=l.length)&&(decide (l.length<=16)&&sA l l.length)):=by
 have key: ∀n,n<=l.length->((List.range n).all λi=>se (l.getD i 0)&& !decide (l.getD i 0∈l.take i))=sA l n:=by
  intro n;induction n with
  |zero=>intro _;rfl
  |succ n ih=>
   intro hn;rw[qy,tj,ih (by omega)];unfold sA;have hb:se (l.getD n 0)=jO (l.getD n 0):=by
    grind[se,jO]
   rw[<-hb];grind[sA]
 grind[DE]
theorem Zw8 {l b:aj} (ho:fM l=some (6,t,b)) (ht:t<=16):lj l=(bif (match Ac (dU b t)with|none=>false|some c=>c==l)then some (dU b t)else none):=by
 have⟨h1,h2,h3,h4⟩:=sd ho;have key:(iS 6 ((dU b t).length:Int) (js (dU b t))==l)=ZE (b.drop (2*t)):=by
  rw[ZtO,nW,lE,uA]
  conv=>lhs;rhs;rw[h1]
  have:=FW (k:=6) (t:=t) (k':=6) (t':=t) (b:=b.take (2*t)) (b':=b) (by omega) (by omega) h4 (by omega) (by omega) h4 (by rw[cX];omega);rw[show((6:Nat):Int)=6 from rfl]at this;rw[show((6:Nat):Int)=6 from rfl,this,Io h2,Im h2];simp
 unfold lj Ac;rw[ho];simp only;rw[Zxs,ax ht];grind
theorem Zol (n:Nat) (p:ai) (l:aj) (st:St) (hs:dc st p l) (hl:l.length=64) (hn:500<=n):
  Ok (λo=>∃s',aB st s'/\match iM l with
   |none=>o=(.val [.a (ints (List.replicate 16 0)),.b false],s')
   |some x=>o=(.val [.a (ints x),.b true],s')/\x.length=16) (run Bd n 308 [.s 1 p 64] st):=by
 obtain _|n:=n;omega;rw[Ze,h.aga];unfold Q6 bV uV aA uD cP cw aZ Lb Ls Li
 try dsimp only
 rw[aX,aq];refine Ok.cv (FD n p l st hs hl) λs1 aH=>?_
 have eX:=hs.mono aH;have⟨Q,hQ⟩: ∃Q:Out ah×St->Prop,(λo=>∃s',aB st s'/\match iM l with
   |none=>o=(.val [.a (ints (List.replicate 16 0)),.b false],s')
   |some x=>o=(.val [.a (ints x),.b true],s')/\x.length=16)=Q:=⟨_,rfl⟩
 have bad: ∀s',aB st s'->iM l=none->Ok Q ((ay [.a (List.replicate 16 (.i 0)),.b false]:M ah) s'):=λs' hp hg=>by
  rw[Zd,<-hQ];refine .mk ⟨s',hp,?_⟩;rw[hg];rfl
 rw[hQ];unfold yT;cases ho:fM l with
 |none=>
  simp only[av,bR,au,aq];rw[Za,bn,ae];simp only[au,aq];rw[ae];exact bad s1 aH (by unfold iM;rw[ho])
 |some q=>
  have⟨k,t,b⟩:=q;have⟨_,hb,_,_⟩:=sd ho;simp only[av,bR,au,aq];rw[Za,bu,af,nl k 3 3 rfl];simp only[au,aq];by_cases hk:k=3
  .subst hk
   rw[ax rfl,bu,af];refine Ok.join λaI jV=>?_
   refine Zi _ (λq y s=>∃i:Nat,y=[.a (ints (dU b i)++ints (List.replicate (16-i) 0)),.i i]/\i<=16/\16-i<=q/\s=s1) ?_ 16 n _ _ ⟨0,rfl,by omega,by omega,rfl⟩ (by omega);rintro q _ s ⟨i,rfl,hi,hq,rfl⟩ rec aN;have hlen:(ints (dU b i)++ints (List.replicate (16-i) 0)).length=16:=by
    simp[ints,nW];omega
   rw[cT,av,aq];rw[bI hlen];by_cases aw:i<16
   .have cG:ar ((i:Int)+1)=((i+1:Nat):Int):=Zc
    have jB:ar (2*(i:Int))=((2*i:Nat):Int):=Zc;have j5:ar (((2*i:Nat):Int)+2)=((2*i+2:Nat):Int):=Zc;simp only[cG,jB,j5,bp,cR];rw[ax (show(i:Int)<16 by omega),ae];rw[Zb (by rw[aY,br,br];omega),Zb (by rw[aY,br,br];omega)];rw[Zk (xB n _ s (zQ)),zU];rw[av,aq];rw[Zb (show aR (i:Int) 16=true from Zj aw),Zb (gA (by omega))];refine aN (16-(i+1)) _ _ (by omega) ⟨i+1,?_,by omega,aO _,rfl⟩;congr 2;rw[Mo,show List.replicate (16-i) (0:Int)=0::List.replicate (16-(i+1)) 0 by rw[show 16-i=(16-(i+1))+1 by omega];rfl];have e3:i=(ints (dU b i)).length:=by simp[ints,nW]
    have e4:=tF (ints (dU b i)) [.i 0] (ints (List.replicate (16-(i+1)) 0)) [.i (bN b (2*i) 2)] rfl;rw[<-e3]at e4;show cE (ints (dU b i)++([.i 0]++ints (List.replicate (16-(i+1)) 0))) i [.i (bN b (2*i) 2)]=ints (dU b i++[bN b (2*i) 2])++_;rw[e4,show ints (dU b i++[bN b (2*i) 2])=ints (dU b i)++[.i (bN b (2*i) 2)] by unfold ints;rw[fq];rfl,fI]
   .rw[aF (show ¬(i:Int)<16 by omega),af]
    have p9:i=16:=by omega
    subst p9;rw[show ints (dU b 16)++ints (List.replicate (16-16) 0)=ints (dU b 16)from gz _]at hlen⊢;subst jV;simp only[cT,aq];rw[bI hlen];refine Ok.cv (SX n (dU b 16) (nW b 16) s) λs2 aU=>?_
    have cI:=Zwa ho;cases CA:uU (dU b 16)with
    |none=>
     rw[CA]at cI;show Ok Q (eR [.t [],.b false] _ s2);rw[bR,au,aq];rw[Za,bn,ae];simp only[au,aq];rw[ae];exact bad s2 (aH.trans aU) cI
    |some c=>
     rw[CA]at cI;simp only at cI;show Ok Q (eR [.t c,.b true] _ s2);rw[bR,au,aq];rw[Za,bu,af];have rl: ∀(K:ah->M ah),dy p 64 K s2=K (bU l) s2:=λK=>by
      have:=iR (show Sl _ _ (bU l)from eX.mono aU) K;rwa [Zu,hl]at this
     rw[rl,<-lr,oJ];simp only[au,aq];cases cL:(c==l)with
     |false=>
      rw[cL]at cI;rw[bn,ae];exact bad s2 (aH.trans aU) cI
     |true=>
      rw[cL]at cI;rw[bu,af,bI hlen,Zd,<-hQ];refine .mk ⟨s2,aH.trans aU,?_⟩;rw[cI];exact⟨rfl,nW b 16⟩
  .rw[aF hk,bn,ae]
   grind[iM]
theorem ZqU:(bT nH:ah)=[.b false,.i 0,.i 0,.b false,.i 0,.i 0,.b false,.i 0,.i 0,.b false,.i 0,.i 0,.b false,.i 0,.i 0,.b false,.i 0,.i 0,.b false,.i 0,.i 0]:=rfl
theorem Zog (n:Nat) (p:ai) (l:aj) (st:St) (hs:dc st p l) (hl:l.length=64) (hn:500<=n):
  Ok (λo=>∃s',aB st s'/\match ZL l with
   |none=>o=(.val [.a (bT nH),.b false],s')
   |some x=>o=(.val [.a (bT x),.b true],s')/\x.length=7) (run Bd n 309 [.s 1 p 64] st):=by
 obtain _|n:=n;omega;rw[Ze,h.agb];unfold QS bV uV aA uD cP lY aZ ZI Lb Ls rX Ds
 try dsimp only
 rw[aX,aq];rw[<-ZqU];refine Ok.cv (FD n p l st hs hl) λs1 aH=>?_
 have eX:=hs.mono aH;have⟨Q,hQ⟩: ∃Q:Out ah×St->Prop,(λo=>∃s',aB st s'/\match ZL l with
   |none=>o=(.val [.a (bT nH),.b false],s')
   |some x=>o=(.val [.a (bT x),.b true],s')/\x.length=7)=Q:=⟨_,rfl⟩
 have bad: ∀s',aB st s'->ZL l=none->Ok Q ((ay [.a (bT nH),.b false]:M ah) s'):=λs' hp hg=>by
  rw[Zd,<-hQ];refine .mk ⟨s',hp,?_⟩;rw[hg]
 rw[hQ];unfold yT;cases ho:fM l with
 |none=>
  simp only[av,bR,au,aq];rw[Za,bn,ae];simp only[au,aq];rw[ae];exact bad s1 aH (by unfold ZL;rw[ho])
 |some q=>
  have⟨k,t,b⟩:=q;have⟨_,hb,_,ht⟩:=sd ho;simp only[av,bR,au,aq];rw[Za,bu,af,nl k 2 2 rfl];simp only[au,aq];by_cases hk:k=2
  .subst hk
   rw[ax rfl,bu,af];refine Ok.join λaI jV=>?_
   refine Zi _ (λq y s=>∃i:Nat,y=[.a (bT (ZR b t i)++bT (List.replicate (7-i) gT)),.i i]/\i<=7/\7-i<=q/\s=s1) ?_ 7 n _ _ ⟨0,rfl,by omega,by omega,rfl⟩ (by omega);rintro q _ s ⟨i,rfl,hi,hq,rfl⟩ rec aN;have hlen:(bT (ZR b t i)++bT (List.replicate (7-i) gT)).length=21:=by
    rw[bB,ZB,ZB,BE,oF];omega
   rw[cT,av,aq];rw[bI hlen];by_cases aw:i<7
   .have cG:ar ((i:Int)+1)=((i+1:Nat):Int):=Zc
    have jB:ar (8*(i:Int))=((8*i:Nat):Int):=Zc;have j5:ar (((8*i:Nat):Int)+4)=((8*i+4:Nat):Int):=Zc;have pC:ar (((8*i:Nat):Int)+8)=((8*i+4+4:Nat):Int):=Zc;have aU:2^i<=2^6:=nT (by decide) (by omega);have hpp:=Nat.two_pow_pos i;have hw6:ar (1*2^(min i 64))=((2^i:Nat):Int):=by
     rw[nS (by omega),Int.one_mul,show((2:Int)^i)=((2^i:Nat):Int) by simp];exact Zc
    simp only[cG,jB,j5,pC,bp,hw6];have ag4:((ar ((t:Int).tdiv ((2^i:Nat):Int))).tmod 2==1)=eE t i:=by
     rw[show((t:Int).tdiv ((2^i:Nat):Int))=((t/2^i:Nat):Int)from rfl];unfold eE;have hd:t/2^i<=t:=Fg _ _;generalize t/2^i=d at hd;rw[Zc,show(d:Int).tmod 2=((d%2:Nat):Int)from rfl];exact nl _ 1 1 rfl
    rw[ax (show(i:Int)<7 by omega),ae];rw[Zb (ax (by omega)),Zb (by rw[eG.2 (by omega)];rfl),Zb (by rw[aY,br,br];omega),Zb (by rw[aY,br,br];omega)];rw[v8 (xB n _ s (zQ)),zU];rw[av,aq];rw[Zb (by rw[aY,br,br];omega),Zb (by rw[aY,br,br];omega)];rw[v8 (xB n _ s (zQ)),zU];rw[av,aq];rw[ag4,Zb (show aR (i:Int) 7=true from Zj aw),Zb (gA (by omega))];refine aN (7-(i+1)) _ _ (by omega) ⟨i+1,?_,by omega,aO _,rfl⟩;congr 2;have e2:List.replicate (7-i) gT=gT::List.replicate (7-(i+1)) gT:=by rw[show 7-i=(7-(i+1))+1 by omega];rfl
    have e3:i*3=(bT (ZR b t i)).length:=by rw[ZB,BE]
    have e4:=tF (bT (ZR b t i)) (eL gT) (bT (List.replicate (7-(i+1)) gT)) (eL (wo b t i)) rfl;rw[<-e3]at e4;rw[Il,Iw,e2];show cE (bT (ZR b t i)++(eL gT++bT (List.replicate (7-(i+1)) gT))) (i*3) (eL (wo b t i))=(bT (ZR b t i)++bT [wo b t i])++_;rw[e4,fI];congr 1
   .rw[aF (show ¬(i:Int)<7 by omega),af]
    have p9:i=7:=by omega
    subst p9;rw[show bT (ZR b t 7)++bT (List.replicate (7-7) gT)=bT (ZR b t 7)from gz _]at hlen⊢;subst jV;simp only[cT,aq];rw[bI hlen];refine Ok.cv (ZlI n (ZR b t 7) (BE b t 7) s) λs2 aU=>?_
    have cI:=ZvM ho;cases CA:xJ (ZR b t 7)with
    |none=>
     rw[CA]at cI;show Ok Q (eR [.t [],.b false] _ s2);rw[bR,au,aq];rw[Za,bn,ae];simp only[au,aq];rw[ae];exact bad s2 (aH.trans aU) cI
    |some c=>
     rw[CA]at cI;simp only at cI;show Ok Q (eR [.t c,.b true] _ s2);rw[bR,au,aq];rw[Za,bu,af];have rl: ∀(K:ah->M ah),dy p 64 K s2=K (bU l) s2:=λK=>by
      have:=iR (show Sl _ _ (bU l)from eX.mono aU) K;rwa [Zu,hl]at this
     rw[rl,<-lr,oJ];simp only[au,aq];cases cL:(c==l)with
     |false=>
      rw[cL]at cI;rw[bn,ae];exact bad s2 (aH.trans aU) cI
     |true=>
      rw[cL]at cI;rw[bu,af,bI hlen,Zd,<-hQ];refine .mk ⟨s2,aH.trans aU,?_⟩;rw[cI];exact⟨rfl,BE b t 7⟩
  .rw[aF hk,bn,ae]
   grind[ZL]
theorem Zxu (k:Int):EJ k= !jO k:=by
 grind[EJ,jO]
theorem Zxy (x:jL):oS x=((bif (bif (bif decide (x.bJ.slot>=0)then decide (x.bJ.slot<=1791)else false)then decide (x.bJ.gen>=1)else false)then decide (x.bJ.gen<=4294967295)else false)&&decide ((x.kids.length:Int)<=12)&&x.kids.all jO):=by
 have hk:(!x.kids.any EJ)=x.kids.all jO:=by
  rw[lE,lF,List.any_eq_false,vT];simp[Zxu]
 grind[oS]
theorem ZpH (n:Nat) (x:jL) (z:Nat) (p:ai) (st:St) (hz:z=1\/p=none) (hs:Sl st p (ints x.kids)) (hl:x.kids.length<1000) (hn:x.kids.length+10<=n):
  Ok (λo=>o=(.val [.b (oS x)],st)) (run Bd n 319 [.a (oA x z p)] st):=by
 obtain⟨n,rfl⟩: ∃m,n=m+2:=⟨n-2,by omega⟩;rw[Ze,h.agl];unfold RI FK aA cP Zn bq Lb Li zH
 try dsimp only
 rw[dT];unfold oA fk;simp only[nQ,jH,av,Zg 1 z p _ hz,aq];refine Ok.join λaz nB=>?_
 have go: ∀c:Bool,c=(bif (bif (bif decide (x.bJ.slot>=0)then decide (x.bJ.slot<=1791)else false)then decide (x.bJ.gen>=1)else false)then decide (x.bJ.gen<=4294967295)else false)->
   Ok (λo=>o=(.val [.b (oS x)],st)) (cS (λaV st=>
      gC st λCO st=>
      aD .i64 st λi st=>
      aL st<|
      cK (λst=>gC st λb5 st=>aL st<|
       bif b5 then
       bH p λi1 o=>
      aC (aR i x.kids.length)<|
      bD i1 (i.toNat*1+o) λd=>
      cY .i64 d λx=>
      cQ (run Bd (n+1) 251 [.i x]) λds=>
      gC ds λx1 ds=>
      aL ds<|
      aV [.b x1,.i (ar (i+1))]
      else
       (ay [.b CO]:M ah)) λdp=>
      bif decide (i<(x.kids.length:Int))then
       dp [.b CO]
      else
       dp [.b false]) (n+1) [.b (c&&decide ((x.kids.length:Int)<=12)),.i 0] st):=λc hc=>by
  rw[Zxy,<-hc];generalize (c&&decide ((x.kids.length:Int)<=12))=e;refine Zi _ (λq y t=>∃i:Nat,y=[.b (e&&(x.kids.take i).all jO),.i (i:Int)]/\i<=x.kids.length/\x.kids.length-i<=q/\t=st) ?_ x.kids.length (n+1) _ _ (by grind) (by omega);rintro q y t ⟨i,rfl,hi,hq,rfl⟩ rec aN;rw[au,av,aq];rw[Za];by_cases aw:i<x.kids.length
  .rw[ax (show(i:Int)<(x.kids.length:Int) by omega),ae]
   simp only[au,aq];have fZ:x.kids.take (i+1)=x.kids.take i++[x.kids[i]]:=by simp
   cases hb:(e&&(x.kids.take i).all jO)with
   |true=>
    obtain⟨i1,o1,rfl⟩:=hs.cH (by simp[ints];omega);have da:(ints x.kids)[i]? =some (.i x.kids[i]):=ZD aw;rw[ae,bd,Zb (Zj aw)];rw[bp];rw[hs.dJ da];rw[bg];rw[Zk (H2 n _ t)];rw[au,aq];rw[Zc];refine aN (x.kids.length-(i+1)) _ _ (by omega) ⟨i+1,?_,by omega,aO _,rfl⟩;rw[aY]at hb;rw[fZ,tj,hb.1,hb.2];simp
   |false=>
    rw[af,Zd];refine .mk ?_;grind
  .rw[aF (show ¬(i:Int)<(x.kids.length:Int) by omega),af]
   simp only[au,aq];rw[af,dG (by omega),Zd];exact .mk rfl
 subst nB;cases h1:decide (x.bJ.slot>=0)with
 |true=>
  rw[ae];simp only[au,aq];have:=go (bif (bif decide (x.bJ.slot<=1791)then decide (x.bJ.gen>=1)else false)then decide (x.bJ.gen<=4294967295)else false) (by rw[h1];rfl);rw[Za];cases h2:decide (x.bJ.slot<=1791)with
  |true=>
   rw[h2]at this;simp only[ae,au,aq,Za]at this⊢;grind
  |false=>
   rw[h2]at this;simp only[af,au,aq,Za,gf]at this⊢;exact this
 |false=>
  rw[af];have:=go false (by rw[h1];rfl);simp only[af,au,aq,Za,gf]at this⊢;exact this
theorem Zs7 (n:Nat) (p:ai) (l:aj) (st:St) (hs:dc st p l) (hl:l.length=64) (hn:3000<=n):
  Ok (λo=>∃s',aB st s'/\match iY l with
   |none=>o=(.val [.a [.i 0,.i 0,.i 0,.i 0,.s 0 none 0],.b false],s')
   |some x=>∃q,o=(.val [.a (oA x 1 q),.b true],s')/\Fz s' q (ints x.kids)) (run Bd n 311 [.s 1 p 64] st):=by
 obtain _|n:=n;omega;rw[Ze,h.agd];unfold Tt bV uV aA tp FI bq jw Fy lY aZ Bv Ls xG Fv Lb Li FJ FB
 try dsimp only
 rw[aX,aq,ZM];refine Ok.cv (FD n p l st hs hl) λs1 aH=>?_
 have eX:=hs.mono aH;have⟨Q,hQ⟩: ∃Q:Out ah×St->Prop,(λo=>∃s',aB st s'/\match iY l with
   |none=>o=(.val [.a [.i 0,.i 0,.i 0,.i 0,.s 0 none 0],.b false],s')
   |some x=>∃q,o=(.val [.a (oA x 1 q),.b true],s')/\Fz s' q (ints x.kids))=Q:=⟨_,rfl⟩
 have bad: ∀s',aB st s'->iY l=none->Ok Q ((bZ st.length [.a [.i 0,.i 0,.i 0,.i 0,.s 0 none 0],.b false]:M ah) s'):=λs' hp hg=>by
  rw[Zp,<-hQ];refine .mk ⟨_,Zr hp,?_⟩;rw[hg]
 rw[hQ];unfold yT;cases ho:fM l with
 |none=>
  simp only[av,bR,au,aq];rw[Za,bn,ae];simp only[au,aq];rw[Za,ae];simp only[au,aq];rw[ae];exact bad s1 aH (by unfold iY;rw[ho])
 |some q=>
  have⟨k,t,b⟩:=q;have⟨_,hb,_,ht⟩:=sd ho;simp only[av,bR,au,aq];rw[Za,bu,af,nl k 1 1 rfl];simp only[au,aq];rw[Za];by_cases hk:k=1
  .subst hk
   rw[ax rfl,bu,af];simp only[au,aq];by_cases Ez:t<=12
   .rw[aF (show ¬(t:Int)>12 by omega),af]
    have cI:=Zv0 ho Ez;have rn: ∀(a c:Nat),c<=8->run Bd n 292 [.t ((b.take (a+c)).drop a)] s1=some (.val [.i (bN b a c)],s1):=λa c hc=>by
     rw[xB n _ s1 (zQ hc),zU]
    rw[Zb (ax (by omega)),qG (rn 16 4 (by omega)) (.refl _)];rw[av,aq];rw[Zb (ax (by omega)),qG (rn 20 4 (by omega)) (.refl _)];rw[av,aq];have r0:run Bd n 292 [.t (b.take 8)] s1=some (.val [.i (bN b 0 8)],s1):=by
     have:=rn 0 8 (by omega);rwa [dK]at this
    rw[Zb (ax (by omega)),qG r0 (.refl _)];rw[av,aq];rw[Zb (ax (by omega)),qG (rn 8 8 (by omega)) (.refl _)];rw[av,aq];refine Ok.join λaW kL=>?_
    refine Zi _ (λq y s=>∃(i z:Nat) (pk:ai),y=[.a [.i (bN b 16 4),.i (bN b 20 4),.i (bN b 0 8),.i (bN b 8 8),.s z pk i],.i i]/\(z=1\/pk=none)/\i<=t/\t-i<=q/\bm st s pk (ints (oP b i))/\dc s p l) ?_ t n _ _ ⟨0,0,none,rfl,.inr rfl,by omega,by omega,.nil aH,eX⟩ (by omega);rintro q _ s ⟨i,z,pk,rfl,hz,hi,hq,gq,vj⟩ rec aN;rw[dT];simp only[av,Zg 1 z pk _ hz,aq];have fY:(oP b i).length=i:=Dv b i;have jU:(ints (oP b i)).length=i*1:=by simp[ints,fY]
    by_cases aw:i<t
    .have cG:ar ((i:Int)+1)=((i+1:Nat):Int):=Zc
     have jB:ar (2*(i:Int))=((2*i:Nat):Int):=Zc;have j5:ar (26+((2*i:Nat):Int))=((24+2*i+2:Nat):Int):=by rw[Zc];omega
     have pC:ar (24+((2*i:Nat):Int))=((24+2*i:Nat):Int):=by rw[Zc];omega
     simp only[cG,jB,j5,pC,bp];rw[ax (show(i:Int)<(t:Int) by omega),ae];rw[Zb (by rw[aY,br,br];omega),Zb (by rw[aY,br,br];omega)];rw[v8 (xB n _ s (zQ (a:=24+2*i))),zU];rw[av,aq];have⟨q2,s2,du,vl⟩:=gq.push (β:=ah) (sz:=1) (n:=i) (lim:=8796093022208) [.i (bN b (24+2*i) 2)] (by omega) jU rfl (by omega);rw[vl];refine aN (t-(i+1)) _ _ (by omega) ⟨i+1,1,q2,rfl,.inl rfl,by omega,aO _,?_,?_⟩
     .rw[Znt,show ints (oP b i++[bN b (24+2*i) 2])=ints (oP b i)++[.i (bN b (24+2*i) 2)] by unfold ints;rw[fq];rfl]
      exact du
     .exact hs.mono du.1
    .rw[aF (show ¬(i:Int)<(t:Int) by omega),af]
     have AF:i=t:=by omega
     subst AF;subst kL;show Ok Q (ba [DV.a _] _ s);rw[dT];simp only[av,aX,aq];have dA:Sl s pk (ints (l9 b i).kids):=gq.sl;have ot:(l9 b i).kids.length=i:=fY;have ny:([.i (bN b 16 4),.i (bN b 20 4),.i (bN b 0 8),.i (bN b 8 8),.s 1 pk i]:ah)=oA (l9 b i) 1 pk:=by
      unfold oA fk l9;grind
     rw[ny];refine Ok.call (ZpH n (l9 b i) 1 pk s (.inl rfl) dA (by omega) (by omega)) ?_;rintro _ rfl;refine⟨_,s,rfl,?_⟩;rw[au,aq];rw[Za];cases hr:oS (l9 b i)with
     |false=>
      rw[hr,gf,af]at cI;rw[bn,ae];simp only[au,aq];rw[ae];exact bad s gq.1 cI
     |true=>
      rw[hr,dF]at cI;rw[bu,af];refine Ok.cx (Zm0 n (l9 b i) 1 pk s (.inl rfl) dA (by omega)) λs2 aU=>?_
      rw[bR,aq];have rl: ∀(K:ah->M ah),dy p 64 K s2=K (bU l) s2:=λK=>by
       have:=iR (show Sl _ _ (bU l)from vj.mono aU) K;rwa [Zu,hl]at this
      rw[rl,<-lr,oJ];simp only[au,aq];have rr:=gq.mono aU;cases cL:(xe (l9 b i)==l)with
      |false=>
       rw[cL]at cI;rw[bn,ae];exact bad s2 rr.1 cI
      |true=>
       rw[cL,ae]at cI;rw[bu,af,Zp,<-hQ];refine .mk ⟨_,Zr rr.1,?_⟩;rw[cI];exact⟨pk,rfl,rr.fz⟩
   .rw[ax (show(t:Int)>12 by omega),ae]
    refine bad s1 aH ?_;unfold iY;rw[ho];grind
  .rw[aF hk,bn,ae]
   simp_all[iY]
theorem Zo5 (n:Nat) (p:ai) (l:aj) (st:St) (hs:dc st p l) (hl:l.length=64) (hn:3000<=n):
  Ok (λo=>∃s',aB st s'/\match lj l with
   |none=>o=(.val [.s 0 none 0,.b false],s')
   |some x=>∃q,o=(.val [.s 1 q x.length,.b true],s')/\Sl s' q (ints x)/\x.length<=16) (run Bd n 269 [.s 1 p 64] st):=by
 obtain _|n:=n;omega;rw[Ze,h.afL];unfold Q8 bV uV aA fB uD kd cw aZ uG Lb Ls Li dY iw
 try dsimp only
 rw[aX,aq,ZM];refine Ok.cv (FD n p l st hs hl) λs1 aH=>?_
 have⟨Q,hQ⟩: ∃Q:Out ah×St->Prop,(λo=>∃s',aB st s'/\match lj l with
   |none=>o=(.val [.s 0 none 0,.b false],s')
   |some x=>∃q,o=(.val [.s 1 q x.length,.b true],s')/\Sl s' q (ints x)/\x.length<=16)=Q:=⟨_,rfl⟩
 have bad: ∀s',aB st s'->lj l=none->Ok Q ((bZ st.length [.s 0 none 0,.b false]:M ah) s'):=λs' hp hg=>by
  rw[Zp,<-hQ];refine .mk ⟨_,Zr hp,?_⟩;rw[hg]
 rw[hQ];unfold yT;cases ho:fM l with
 |none=>
  simp only[av,bR,au,aq];rw[Za,bn,ae];simp only[au,aq];rw[Za,ae];simp only[au,aq];rw[ae];exact bad s1 aH (by unfold lj;rw[ho])
 |some q=>
  have⟨k,t,b⟩:=q;have⟨_,hb,_,ht⟩:=sd ho;simp only[av,bR,au,aq];rw[Za,bu,af,nl k 6 6 rfl];simp only[au,aq];rw[Za];by_cases hk:k=6
  .subst hk
   rw[ax rfl,bu,af];simp only[au,aq];by_cases Ez:t<=16
   .rw[aF (show ¬(t:Int)>16 by omega),af]
    have cI:=Zw8 ho Ez;refine Ok.join λaW kL=>?_
    refine Zi _ (λq y s=>∃(i z:Nat) (pk:ai),y=[.s z pk i,.i i]/\(z=1\/pk=none)/\i<=t/\t-i<=q/\bm st s pk (ints (dU b i))) ?_ t n _ _ ⟨0,0,none,rfl,.inr rfl,by omega,by omega,.nil aH⟩ (by omega);rintro q _ s ⟨i,z,pk,rfl,hz,hi,hq,gq⟩ rec aN;simp only[av,Zg 1 z pk _ hz,aq];have fY:(dU b i).length=i:=nW b i;have jU:(ints (dU b i)).length=i*1:=by simp[ints,fY]
    by_cases aw:i<t
    .have cG:ar ((i:Int)+1)=((i+1:Nat):Int):=Zc
     have jB:ar (2*(i:Int))=((2*i:Nat):Int):=Zc;have j5:ar (((2*i:Nat):Int)+2)=((2*i+2:Nat):Int):=by rw[Zc];omega
     simp only[cG,jB,j5,bp];rw[ax (show(i:Int)<(t:Int) by omega),ae];rw[Zb (by rw[aY,br,br];omega),Zb (by rw[aY,br,br];omega)];rw[Zk (xB n _ s (zQ (a:=2*i))),zU];rw[av,aq];have⟨q2,s2,du,vl⟩:=gq.push (β:=ah) (sz:=1) (n:=i) (lim:=8796093022208) [.i (bN b (2*i) 2)] (by omega) jU rfl (by omega);rw[vl];refine aN (t-(i+1)) _ _ (by omega) ⟨i+1,1,q2,rfl,.inl rfl,by omega,aO _,?_⟩;rw[Mo,show ints (dU b i++[bN b (2*i) 2])=ints (dU b i)++[.i (bN b (2*i) 2)] by unfold ints;rw[fq];rfl];exact du
    .rw[aF (show ¬(i:Int)<(t:Int) by omega),af]
     have AF:i=t:=by omega
     subst AF;subst kL;simp only[aX,aq];have hdc:=ZlZ n (dU b i) 1 pk s (.inl rfl) gq.sl;rw[fY]at hdc;refine Ok.cv hdc λs2 aU=>?_
     have rr:=gq.mono aU;cases CA:Ac (dU b i)with
     |none=>
      rw[CA]at cI;show Ok Q (eR [.t [],.b false] _ s2);rw[bR,au,aq];rw[Za,bn,ae];simp only[au,aq];rw[ae];exact bad s2 rr.1 cI
     |some c=>
      rw[CA]at cI;simp only at cI;show Ok Q (eR [.t c,.b true] _ s2);rw[bR,au,aq];rw[Za,bu,af];have rl: ∀(K:ah->M ah),dy p 64 K s2=K (bU l) s2:=λK=>by
       have:=iR (show Sl _ _ (bU l)from hs.mono rr.1) K;rwa [Zu,hl]at this
      rw[rl,<-lr,oJ];simp only[au,aq];cases cL:(c==l)with
      |false=>
       rw[cL]at cI;rw[bn,ae];exact bad s2 rr.1 cI
      |true=>
       rw[cL]at cI;rw[bu,af,Zp,<-hQ];refine .mk ⟨_,Zr rr.1,?_⟩;rw[cI];exact⟨pk,by rw[fY],rr.sl.dQ _,by omega⟩
   .rw[ax (show(t:Int)>16 by omega),ae]
    refine bad s1 aH ?_;unfold lj;rw[ho];grind
  .rw[aF hk,bn,ae]
   simp_all[lj]
theorem ZwU (k:Int):se k=jO k:=by
 grind[se,jO]
theorem Zp0 (n:Nat) (x:ZH) (st:St) (hl:x.dz.length=12) (hm:x.mask<4294967296) (hs:x.name.length<1000) (hn:x.name.length+30<=n):
  Ok (λo=>∃s',o=(.val [.b (mQ x)],s')/\aB st s') (run Bd n 293 [.a (Z0 x)] st):=by
 obtain⟨n,rfl⟩: ∃m,n=m+2:=⟨n-2,by omega⟩;rw[Ze,h.af0];unfold RB bq aA Q_ iX Ls Lb gJ Li
 try dsimp only
 rw[dT];unfold Z0;have jU:(ints x.dz).length=12:=by simp[ints,hl]
 rw[bR,av];rw[bI jU];rw[aq];rw[bI (by grind)];refine Ok.cv (ZkH (n+1) x.name (by omega) (by omega) st) λs1 aH=>?_
 rw[au,aq];have bad:mQ x=false->Ok (λo=>∃s',o=(.val [.b (mQ x)],s')/\aB st s') ((ay [.b false]:M ah) s1):=λhr=>by
  rw[Zd];exact .mk ⟨s1,by rw[hr],aH⟩
 rw[Za];cases wQ:qI x.name with
 |false=>
  rw[bn,ae];simp only[au,aq];rw[Za,ae];simp only[au,aq];rw[ae];exact bad (by grind[mQ])
 |true=>
 rw[bu,af,aF (show ¬(x.mask:Int)<0 by omega)];simp only[au,aq];rw[Za,af];by_cases h4:(x.mask:Int)>4095
 .rw[ax h4]
  simp only[au,aq];rw[ae];grind[mQ]
 rw[aF h4];simp only[au,aq];rw[af];have hq:mQ x=(List.range 12).all λi=>rf x.mask i (x.dz.getD i 0):=by
  grind[mQ]
 refine Ok.join λaW kL=>?_
 refine Zi _ (λq y t=>∃i:Nat,y=[.i ((x.mask/2^i:Nat):Int),.i (i:Int)]/\i<=12/\12-i<=q/\t=s1/\∀j,j<i->rf x.mask j (x.dz.getD j 0)=true) ?_ 12 (n+1) _ _ (by grind) (by omega);rintro q y t ⟨i,rfl,hi,hqi,rfl,dt⟩ rec aN;simp only[av,aq];by_cases aw:i<12
 .have da:(ints x.dz)[i]? =some (.i (x.dz.getD i 0)):=by
   rw[ZD,dW,cq (by omega)];rfl
  have⟨w,hw⟩: ∃w,x.dz.getD i 0=w:=⟨_,rfl⟩;have⟨m,lz⟩: ∃m,x.mask/2^i=m:=⟨_,rfl⟩;have fw:x.mask/2^(i+1)=m/2:=by rw[uz,<-Ff,lz]
  have aku:m<=x.mask:=by rw[<-lz];exact Fg _ _
  have hhf:rf x.mask i w=bif decide (m%2=1)then jO w else w==0:=by
   unfold rf eE;rw[lz,ZwU]
  rw[hw]at da;rw[lz,ax (show(i:Int)<12 by omega),ae];have e0:((m:Int).tmod 2==0)=decide (m%2=0):=by
   rw[show(m:Int).tmod 2=((m%2:Nat):Int)from rfl];exact nl _ 0 0 rfl
  have e1:((m:Int).tmod 2==1)=decide (m%2=1):=by
   rw[show(m:Int).tmod 2=((m%2:Nat):Int)from rfl];exact nl _ 1 1 rfl
  rw[e0,e1];have An:rf x.mask i w=true->Ok (λo=>∃s',o=(.val [.b (mQ x)],s')/\aB st s') (rec [.i (ar ((m:Int).tdiv 2)),.i (ar ((i:Int)+1))] t):=λhf=>by
   rw[show(m:Int).tdiv 2=((m/2:Nat):Int)from rfl,Zc,Zc];refine aN (12-(i+1)) _ _ (by omega) ⟨i+1,by rw[fw];rfl,by omega,aO _,rfl,λj hj=>?_⟩;by_cases nA:j=i
   .rw[nA,hw];exact hf
   grind
  rw[Za];by_cases OK:m%2=1
  .rw[ax OK,ae]at hhf
   rw[aF (show ¬m%2=0 by omega),af];simp only[au,aq];rw[Za,af,Za,ax OK,ae,Zb (show aR (i:Int) 12=true from Zj aw)];rw[bp,cR];rw[gZ da];rw[bg];rw[Zk (H2 n w t)];simp only[au,aq];grind
  .rw[aF OK,af]at hhf
   rw[ax (show m%2=0 by omega),ae,Zb (show aR (i:Int) 12=true from Zj aw)];rw[bp,cR];rw[gZ da];simp only[bg,au,aq];rw[Za];cases hz:(w==0)with
   |true=>
    rw[bu,af,Za,aF OK,af];simp only[au,aq];rw[af];grind
   |false=>
    rw[bn,ae];simp only[au,aq];rw[ae];grind
 .rw[aF (show ¬(i:Int)<12 by omega),af,kL]
  simp only[aq,Zd];refine .mk ⟨t,?_,aH⟩;grind
theorem Zs9 (n:Nat) (p:ai) (l:aj) (st:St) (hs:dc st p l) (hl:l.length=64) (hn:3000<=n):
  Ok (λo=>∃s',aB st s'/\match ZJ l with
   |none=>o=(.val [.a (Z0 DX),.b false],s')
   |some x=>o=(.val [.a (Z0 x),.b true],s')/\x.dz.length=12) (run Bd n 270 [.s 1 p 64] st):=by
 obtain _|n:=n;omega;rw[Ze,h.afM];unfold Tk bV uV aA tp bq jw cP cw aZ Fq Ls Lb Li Ft
 try dsimp only
 rw[aX,aq];refine Ok.cv (FD n p l st hs hl) λs1 aH=>?_
 have eX:=hs.mono aH;have⟨Q,hQ⟩: ∃Q:Out ah×St->Prop,(λo=>∃s',aB st s'/\match ZJ l with
   |none=>o=(.val [.a (Z0 DX),.b false],s')
   |some x=>o=(.val [.a (Z0 x),.b true],s')/\x.dz.length=12)=Q:=⟨_,rfl⟩
 have hq0:(Z0 DX:ah)=[.t (bs []),.i 0,.i 0,.i 0,.i 0,.i 0,.i 0,.i 0,.i 0,.i 0,.i 0,.i 0,.i 0,.i 0]:=rfl;rw[<-hq0];have bad: ∀s',aB st s'->ZJ l=none->Ok Q ((ay [.a (Z0 DX),.b false]:M ah) s'):=λs' hp hg=>by
  rw[Zd,<-hQ];refine .mk ⟨s',hp,?_⟩;rw[hg]
 rw[hQ];unfold yT;cases ho:fM l with
 |none=>
  simp only[av,bR,au,aq];rw[Za,bn,ae];simp only[au,aq];rw[Za,ae];simp only[au,aq];rw[ae];exact bad s1 aH (by grind[ZJ])
 |some q=>
  have⟨k,t,b⟩:=q;have⟨_,hb,_,ht⟩:=sd ho;simp only[av,bR,au,aq];rw[Za,bu,af,nl k 5 5 rfl];simp only[au,aq];rw[Za];by_cases hk:k=5
  .subst hk
   rw[ax rfl,bu,af];simp only[au,aq];by_cases Ez:t<=28
   .rw[aF (show ¬(t:Int)>28 by omega),af]
    have cI:=Zui ho Ez;have r0:run Bd n 292 [.t (b.take 4)] s1=some (.val [.i ((rd b 0 4:Nat):Int)],s1):=by
     rw[xB n _ s1 (by rw[cX];omega)];have e:ez (b.take 4)=rd b 0 4:=by unfold rd;rw[dK]
     have aw:=PB b 0 4;rw[e,Zc]
    rw[Zb (ax (by omega)),qG r0 (.refl _)];rw[av,aq];have aiT:ar (28+(t:Int))=((28+t:Nat):Int):=by rw[Zc];omega
    rw[aiT,Zb (by rw[aY,br,br];omega),Zb (ax (by omega))];rw[bp];have wQ:(b.take (28+t)).drop 28=(b.drop 28).take t:=by rw[C9,show 28+t-28=t by omega]
    rw[wQ];refine Ok.join λaW kL=>?_
    refine Zi _ (λq y s=>∃i:Nat,y=[.a (DV.t ((b.drop 28).take t)::DV.i ((rd b 0 4:Nat):Int)::(ints (ZZ b i)++ints (List.replicate (12-i) 0))),.i i]/\i<=12/\12-i<=q/\s=s1) ?_ 12 n _ _ ⟨0,rfl,by omega,by omega,rfl⟩ (by omega);rintro q _ s ⟨i,rfl,hi,hq,rfl⟩ rec aN;have hlen:(ints (ZZ b i)++ints (List.replicate (12-i) 0)).length=12:=by
     simp[ints,Dw];omega
    rw[dT];rw[bR,av];rw[bI hlen];rw[av,aq];by_cases aw:i<12
    .have cG:ar ((i:Int)+1)=((i+1:Nat):Int):=Zc
     have jB:ar (2*(i:Int))=((2*i:Nat):Int):=Zc;have j5:ar (6+((2*i:Nat):Int))=((4+2*i+2:Nat):Int):=by rw[Zc];omega
     have pC:ar (4+((2*i:Nat):Int))=((4+2*i:Nat):Int):=by rw[Zc];omega
     simp only[cG,jB,j5,pC,bp,cR];rw[ax (show(i:Int)<12 by omega),ae];rw[Zb (by rw[aY,br,br];omega),Zb (by rw[aY,br,br];omega)];rw[Zk (xB n _ s (zQ (a:=4+2*i))),zU];rw[av,aq];rw[Zb (show aR (i:Int) 12=true from Zj aw),Zb (gA (by omega))];refine aN (12-(i+1)) _ _ (by omega) ⟨i+1,?_,by omega,aO _,rfl⟩;congr 4;rw[ZmU,show List.replicate (12-i) (0:Int)=0::List.replicate (12-(i+1)) 0 by rw[show 12-i=(12-(i+1))+1 by omega];rfl];have e3:i=(ints (ZZ b i)).length:=by simp[ints,Dw]
     have e4:=tF (ints (ZZ b i)) [.i 0] (ints (List.replicate (12-(i+1)) 0)) [.i (bN b (4+2*i) 2)] rfl;rw[<-e3]at e4;show cE (ints (ZZ b i)++([.i 0]++ints (List.replicate (12-(i+1)) 0))) i [.i (bN b (4+2*i) 2)]=ints (ZZ b i++[bN b (4+2*i) 2])++_;rw[e4,show ints (ZZ b i++[bN b (4+2*i) 2])=ints (ZZ b i)++[.i (bN b (4+2*i) 2)] by unfold ints;rw[fq];rfl,fI]
    .rw[aF (show ¬(i:Int)<12 by omega),af]
     have p9:i=12:=by omega
     subst p9;rw[show ints (ZZ b 12)++ints (List.replicate (12-12) 0)=ints (ZZ b 12)from gz _]at hlen⊢;have ny:(DV.t ((b.drop 28).take t)::DV.i ((rd b 0 4:Nat):Int)::ints (ZZ b 12))=Z0 (Z9 b t):=rfl;have ub:(Z9 b t).dz.length=12:=Dw b 12;have J2:(Z9 b t).mask<4294967296:=PB b 0 4;have OE:(Z9 b t).name.length<=28:=by
      show((b.drop 28).take t).length<=28;rw[cX];omega
     subst kL;show Ok Q (ba [DV.a _] _ s);rw[dT];rw[bR,av];rw[bI hlen];rw[aq];rw[ny];refine Ok.cv (Zp0 n (Z9 b t) s ub J2 (by omega) (by omega)) λs2 aU=>?_
     rw[au,aq];rw[Za];cases hr:mQ (Z9 b t)with
     |false=>
      rw[hr,gf,af]at cI;rw[bn,ae];simp only[au,aq];rw[ae];exact bad s2 (aH.trans aU) cI
     |true=>
      rw[hr,dF]at cI;rw[bu,af];refine Ok.cx (ZmH n (Z9 b t) ub (by omega) s2 (by omega)) λs3 cu=>?_
      rw[bR,aq];have rl: ∀(K:ah->M ah),dy p 64 K s3=K (bU l) s3:=λK=>by
       have:=iR (show Sl _ _ (bU l)from eX.mono (aU.trans cu)) K;rwa [Zu,hl]at this
      rw[rl,<-lr,oJ];simp only[au,aq];cases cL:(yW (Z9 b t)==l)with
      |false=>
       rw[cL]at cI;rw[bn,ae];exact bad s3 (aH.trans (aU.trans cu)) cI
      |true=>
       rw[cL,ae]at cI;rw[bu,af,bI (by rw[<-ny];simp[hlen]),Zd,<-hQ];refine .mk ⟨s3,aH.trans (aU.trans cu),?_⟩;rw[cI];exact⟨rfl,ub⟩
   .rw[ax (show(t:Int)>28 by omega),ae]
    refine bad s1 aH ?_;unfold ZJ;rw[ho];grind
  .rw[aF hk,bn,ae]
   simp_all[ZJ]
def sD:ak:=List.replicate 16 0
def gL (img:aj) (k:Int):Option (ak):=if k=0 then some sD else match jt img k with
 |none=>none
 |some l=>iM l
def kt (img:aj) (k:Int):Option (List bw):=if k=0 then some nH else match jt img k with
 |none=>none
 |some l=>ZL l
theorem IE (img:aj) (k:Int):((gL img k).getD sD).length=16:=by
 unfold gL;by_cases h:k=0
 .rw[bE h];rfl
 .rw[bj h]
  cases hl:jt img k with
  |none=>rfl
  |some l=>
   simp only;cases hg:iM l with
   |none=>rfl
   |some f=>exact Uq hg
theorem Mx (img:aj) (k:Int):((kt img k).getD nH).length=7:=by
 unfold kt;by_cases h:k=0
 .rw[bE h];rfl
 .rw[bj h]
  cases hl:jt img k with
  |none=>rfl
  |some l=>
   simp only;cases hg:ZL l with
   |none=>rfl
   |some f=>exact Ii hg
theorem Zy (l:ak):(ints l).length=l.length:=by simp[ints]
theorem Zv1:(ints sD:ah)=List.replicate 16 (.i 0):=rfl
theorem LY (n:Nat) (img:aj) (k:Int) (st:St) (hl:img.length<1000000) (hn:600<=n:=by omega):
  Ok (λo=>∃s',o=(.val [.a (ints ((gL img k).getD sD)),.b (gL img k).isSome],s')/\aB st s') (run Bd n 289 [.t img,.i k] st):=by
 obtain⟨n,rfl⟩: ∃m,n=m+2:=⟨n-2,by omega⟩;rw[Ze,h.afW];unfold Tf nU pL jg eI aZ
 try dsimp only
 rw[bR,av,aq];rw[<-Zv1];by_cases h0:k=0
 .have e:gL img k=some sD:=by grind[gL]
  rw[h0,xq,ae,Zd,<-h0,e];exact .mk ⟨st,rfl,.refl _⟩
 .have e:gL img k=(match jt img k with|none=>none|some l=>iM l):=by grind[gL]
  rw[eG.2 h0,af];refine Ok.call (FC n img k st hl) ?_;rintro o ⟨s1,aH,ho⟩;rw[e];cases nD:jt img k with
  |none=>
   rw[nD]at ho;simp only at ho;subst ho;refine⟨_,s1,rfl,?_⟩;rw[Zg 1 0 none _ (.inr rfl),au,aq];rw[bn,ae,Zd];exact .mk ⟨s1,rfl,aH⟩
  |some l=>
   rw[nD]at ho;obtain⟨p,rfl,hf,qY⟩:=ho;refine⟨_,s1,rfl,?_⟩;simp only[aX,au,aq];rw[bu,af];refine Ok.call (Zol (n+1) p l s1 hf.1 qY (by omega)) ?_;rintro o ⟨s2,aU,ho⟩;cases hg:iM l with
   |none=>
    rw[hg]at ho;simp only at ho;subst ho;refine⟨_,s2,rfl,?_⟩;show Ok _ (ba [.a (ints sD),.b false] _ s2);rw[dT];rw[au,aq];rw[bI (by rw[Zy];rfl),bI (by rw[Zy];rfl),Zd];exact .mk ⟨s2,rfl,aH.trans aU⟩
   |some f=>
    rw[hg]at ho;obtain⟨rfl,ep⟩:=ho;refine⟨_,s2,rfl,?_⟩;rw[dT];rw[au,aq];rw[bI (by rw[Zy];exact ep),bI (by rw[Zy];exact ep),Zd];exact .mk ⟨s2,rfl,aH.trans aU⟩
theorem ZlQ (n:Nat) (img:aj) (k:Int) (st:St) (hl:img.length<1000000) (hn:600<=n:=by omega):
  Ok (λo=>∃s',o=(.val [.a (bT ((kt img k).getD nH)),.b (kt img k).isSome],s')/\aB st s') (run Bd n 290 [.t img,.i k] st):=by
 obtain⟨n,rfl⟩: ∃m,n=m+2:=⟨n-2,by omega⟩;rw[Ze,h.afX];unfold SU nU pL jg ZI eI aZ
 try dsimp only
 rw[bR,av,aq];rw[<-ZqU];have Ph: ∀ {f:List bw},f.length=7->(bT f).length=21:=λhf=>by rw[ZB,hf]
 by_cases h0:k=0
 .have e:kt img k=some nH:=by grind[kt]
  rw[h0,xq,ae,Zd,<-h0,e];exact .mk ⟨st,rfl,.refl _⟩
 .have e:kt img k=(match jt img k with|none=>none|some l=>ZL l):=by grind[kt]
  rw[eG.2 h0,af];refine Ok.call (FC n img k st hl) ?_;rintro o ⟨s1,aH,ho⟩;rw[e];cases nD:jt img k with
  |none=>
   rw[nD]at ho;simp only at ho;subst ho;refine⟨_,s1,rfl,?_⟩;rw[Zg 1 0 none _ (.inr rfl),au,aq];rw[bn,ae,Zd];exact .mk ⟨s1,rfl,aH⟩
  |some l=>
   rw[nD]at ho;obtain⟨p,rfl,hf,qY⟩:=ho;refine⟨_,s1,rfl,?_⟩;simp only[aX,au,aq];rw[bu,af];refine Ok.call (Zog (n+1) p l s1 hf.1 qY (by omega)) ?_;rintro o ⟨s2,aU,ho⟩;cases hg:ZL l with
   |none=>
    rw[hg]at ho;simp only at ho;subst ho;refine⟨_,s2,rfl,?_⟩;rw[dT];rw[au,aq];rw[bI (Ph rfl),bI (Ph rfl),Zd];exact .mk ⟨s2,rfl,aH.trans aU⟩
   |some f=>
    rw[hg]at ho;obtain⟨rfl,ep⟩:=ho;refine⟨_,s2,rfl,?_⟩;rw[dT];rw[au,aq];rw[bI (Ph ep),bI (Ph ep),Zd];exact .mk ⟨s2,rfl,aH.trans aU⟩
def mh (img:aj) (top:Int) (slot:Nat):Option bw:=match gL img top with
 |none=>none
 |some f=>match gL img (f.getD (slot/112) 0)with
  |none=>none
  |some g=>match kt img (g.getD (slot/7%16) 0)with
   |none=>none
   |some l=>l[slot%7]?
theorem Uv {x:bw} (h:l[j]? =some x):((bT l).drop (j*3)).take 3=eL x:=by
 obtain⟨A,B,rfl,hA⟩: ∃A B,l=A++x::B/\A.length=j:=by
  have⟨hj,hx⟩:=ef.1 h;exact⟨l.take j,l.drop (j+1),by rw[<-hx];simp,by rw[cX];omega⟩
 have e:bT (A++x::B)=bT A++(eL x++bT B):=by rw[Iw];rfl
 rw[e,List.drop_append_of_le_length (by rw[ZB,hA];omega),lW (by rw[ZB,hA];omega),jH];rfl
theorem zO {l:ak} (h:j<l.length:=by omega):(ints l)[j]? =some (.i (l.getD j 0)):=by
 rw[ZD h,dW,cq h];rfl
theorem ZrT (n:Nat) (img:aj) (top:Int) (slot:Nat) (st:St) (hl:img.length<1000000) (hs:slot<1792) (hn:700<=n):
  Ok (λo=>∃s',o=(.val [.a (eL ((mh img top slot).getD gT)),.b (mh img top slot).isSome],s')/\aB st s') (run Bd n 267 [.t img,.i top,.i (slot:Int)] st):=by
 obtain _|n:=n;omega;rw[Ze,h.afJ];unfold Tv iX jg aA eI rX Lb;simp only[bR,av,aq];have aeh:ar ((slot:Int).tdiv 112)=((slot/112:Nat):Int):=by
  rw[show(slot:Int).tdiv 112=((slot/112:Nat):Int)from rfl];exact Zc
 have e7:ar ((slot:Int).tdiv 7)=((slot/7:Nat):Int):=by
  rw[show(slot:Int).tdiv 7=((slot/7:Nat):Int)from rfl];exact Zc
 have WE:((slot/7:Nat):Int).tmod 16=((slot/7%16:Nat):Int):=rfl;have em7:(slot:Int).tmod 7=((slot%7:Nat):Int):=rfl;refine Ok.cv (LY n img top st hl) λs1 aH=>?_
 have ep:=IE img top;have⟨f,hf⟩: ∃f,(gL img top).getD sD=f:=⟨_,rfl⟩;rw[hf]at ep⊢;rw[dT];rw[au,aq];rw[bI (by rw[Zy];exact ep),bI (by rw[Zy];exact ep),aeh,e7,WE,em7];simp only[bp,cR];rw[Zb (show aR ((slot/112:Nat):Int) 16=true from Zj),gZ (zO)];rw[bg];refine Ok.cv (LY n img (f.getD (slot/112) 0) s1 hl) λs2 aU=>?_
 have jm:=IE img (f.getD (slot/112) 0);have⟨g,hg⟩: ∃g,(gL img (f.getD (slot/112) 0)).getD sD=g:=⟨_,rfl⟩;rw[hg]at jm⊢;rw[dT];rw[au,aq];rw[bI (by rw[Zy];exact jm),bI (by rw[Zy];exact jm),Za];have bad:mh img top slot=none->Ok (λo=>∃s',o=(.val [.a (eL ((mh img top slot).getD gT)),.b (mh img top slot).isSome],s')/\aB st s') ((ay [.a [.b false,.i 0,.i 0],.b false]:M ah) s2):=λhn=>by
  rw[hn,Zd];exact .mk ⟨s2,rfl,aH.trans aU⟩
 cases hF:gL img top with
 |none=>
  rw[show(!(none:Option (ak)).isSome)=true from rfl,ae];simp only[au,aq];rw[ae];refine bad ?_;unfold mh;rw[hF]
 |some f'=>
  have Xo:f'=f:=by rw[<-hf,hF];rfl
  subst Xo;rw[show(!(some f').isSome)=false from rfl,af];simp only[au,aq];cases hG:gL img (f'.getD (slot/112) 0)with
  |none=>
   rw[show(!(none:Option (ak)).isSome)=true from rfl,ae];refine bad ?_;unfold mh;rw[hF];simp only;rw[hG]
  |some g'=>
   have wN:g'=g:=by rw[<-hg,hG];rfl
   subst wN;rw[show(!(some g').isSome)=false from rfl,af,Zb (show aR ((slot/7%16:Nat):Int) 16=true from Zj),gZ (zO)];rw[bg];refine Ok.cv (ZlQ n img (g'.getD (slot/7%16) 0) s2 hl) λs3 cu=>?_
   have gp:=Mx img (g'.getD (slot/7%16) 0);have⟨l,GX⟩: ∃l,(kt img (g'.getD (slot/7%16) 0)).getD nH=l:=⟨_,rfl⟩;rw[GX]at gp⊢;have hx:l[slot%7]? =some (l[slot%7]'(by omega)):=by grind
   have Xf:=Uv hx;rw[dT];rw[au,aq];rw[bI (by rw[ZB,gp]),bI (by rw[ZB,gp]),Zb (show aR ((slot%7:Nat):Int) 7=true from Zj),Zb (gA (by omega)),Xf,bI (show(eL _).length=3 from rfl),Zd];refine .mk ⟨s3,?_,aH.trans (aU.trans cu)⟩;have GM:mh img top slot=(match kt img (g'.getD (slot/7%16) 0)with|none=>none|some l=>l[slot%7]?):=by
    unfold mh;rw[hF];grind
   rw[GM];cases hL:kt img (g'.getD (slot/7%16) 0)with
   |none=>
    have vw:l=nH:=by rw[<-GX,hL];rfl
    have h0:l[slot%7]'(by omega)=gT:=by
     subst vw;exact List.eq_of_mem_replicate (kA _)
    rw[h0];rfl
   |some l'=>
    grind
def cD (acc:ak) (k:Int):ak:=bif k==0 then acc else acc++[k]
def mP (img:aj):ak->ak->Option (ak)
 |acc,[]=>some acc
 |acc,k::r=>match kt img k with
  |none=>none
  |some _=>mP img (cD acc k) r
def oQ (img:aj):ak->ak->Option (ak)
 |acc,[]=>some acc
 |acc,k::r=>match gL img k with
  |none=>none
  |some g=>match mP img (cD acc k) g with
   |none=>none
   |some qT=>oQ img qT r
def xV (img:aj) (top:Int):Option (ak):=match gL img top with
 |none=>none
 |some f=>oQ img (cD [] top) f
def LI (st:St) (R:Option (ak)) (o:Out ah×St):Prop:=∃s',aB st s'/\match R with
 |none=>o=(.val [.s 0 none 0,.b false],s')
 |some l=>∃p,o=(.val [.s 1 p l.length,.b true],s')/\Sl s' p (ints l)
theorem Zr9 (acc:ak) (k:Int):(cD acc k).length<=acc.length+1:=by
 grind[cD]
theorem MB (l:ak) (k:Int):ints (l++[k])=ints l++[.i k]:=by simp[ints]
theorem I5 {l:ak} (h:i<l.length:=by omega):l.drop i=l.getD i 0::l.drop (i+1):=by
 rw[iV h,dW,cq h];rfl
theorem Zqp (n:Nat) (img:aj) (top:Int) (st:St) (hl:img.length<1000000) (hn:700<=n):
  Ok (LI st (xV img top)) (run Bd n 265 [.t img,.i top] st):=by
 obtain _|n:=n;omega;rw[Ze,h.afH];unfold RP nU jg fB kd eI uG dY aZ Li
 try dsimp only
 rw[bR,av,aq,ZM];refine Ok.cv (LY n img top st hl) λs1 aH=>?_
 have ep:=IE img top;have⟨f,hf⟩: ∃f,(gL img top).getD sD=f:=⟨_,rfl⟩;rw[hf]at ep⊢;rw[dT];rw[au,aq];rw[bI (by rw[Zy];exact ep),bI (by rw[Zy];exact ep)];have⟨R,hR⟩: ∃R,xV img top=R:=⟨_,rfl⟩;rw[hR];have bad: ∀s',aB st s'->R=none->Ok (LI st R) ((bZ st.length [.s 0 none 0,.b false]:M ah) s'):=λs' hp hn=>by
  rw[hn,Zp];exact .mk ⟨_,Zr hp,rfl⟩
 cases hF:gL img top with
 |none=>
  rw[show(!(none:Option (ak)).isSome)=true from rfl,ae];grind[xV]
 |some f'=>
  have Xo:f'=f:=by rw[<-hf,hF];rfl
  subst Xo;have hRf:R=oQ img (cD [] top) f':=by
   rw[<-hR];grind[xV]
  rw[show(!(some f').isSome)=false from rfl,af];refine Ok.join λaz nB=>?_
  have go: ∀(z:Nat) (p:ai) (s2:St),(z=1\/p=none)->bm st s2 p (ints (cD [] top))->Ok (LI st R) (az [.s z p (cD [] top).length] s2):=λz p s2 hz ho=>by
   subst nB;simp only[Zg 1 z p _ hz,aq];refine Ok.join λaI jV=>?_
   refine Zi _ (λq y t=>∃(i z:Nat) (p:ai) (out:ak),y=[.s z p out.length,.i i]/\(z=1\/p=none)/\i<=16/\16-i<=q/\bm st t p (ints out)/\out.length<=1+17*i/\R=oQ img out (f'.drop i)) ?_ 16 n _ _ ⟨0,1,p,cD [] top,rfl,.inl rfl,by omega,by omega,ho,by have:=Zr9 [] top;simp at this;omega,by rw[dK];exact hRf⟩ (by omega);rintro q y t ⟨i,z,p,out,rfl,hz,hi,hq,ho,hZ,wH⟩ rec aN;rw[Zg 1 z p _ hz,av,aq];have jU: ∀l:ak,(ints l).length=l.length*1:=λl=>by rw[Zy,cR]
   by_cases aw:i<16
   .have fW:=I5 (l:=f') (i:=i)
    have⟨k,hk⟩: ∃k,f'.getD i 0=k:=⟨_,rfl⟩;rw[hk]at fW;have vq:(ints f')[i]? =some (.i k):=by rw[<-hk];exact zO
    rw[ax (show(i:Int)<16 by omega),ae];refine Ok.join λaW kL=>?_
    rw[Zb (show aR (i:Int) 16=true from Zj aw)];rw[bp,cR];rw[gZ vq];rw[bg];refine Ok.cv (LY n img k t hl) λt1 aU=>?_
    have jm:=IE img k;have⟨g,hg⟩: ∃g,(gL img k).getD sD=g:=⟨_,rfl⟩;rw[hg]at jm⊢;rw[dT];rw[au,aq];rw[bI (by rw[Zy];exact jm),bI (by rw[Zy];exact jm)];have rq:=ho.mono aU;rw[fW]at wH;cases hG:gL img k with
    |none=>
     rw[show(!(none:Option (ak)).isSome)=true from rfl,ae];refine bad t1 rq.1 ?_;rw[wH];unfold oQ;rw[hG]
    |some g'=>
     have wN:g'=g:=by rw[<-hg,hG];rfl
     subst wN;have W5:R=(match mP img (cD out k) g' with|none=>none|some qT=>oQ img qT (f'.drop (i+1))):=by
      rw[wH]
      conv=>lhs;unfold oQ
      rw[hG]
     rw[show(!(some g').isSome)=false from rfl,af,Zb (show aR (i:Int) 16=true from Zj aw),gZ vq];rw[bg];refine Ok.join λbz Cw=>?_
     have WK: ∀(z:Nat) (p:ai) (s2:St),(z=1\/p=none)->bm st s2 p (ints (cD out k))->Ok (LI st R) (bz [.s z p (cD out k).length] s2):=λz p s2 hz ho=>by
      subst Cw;simp only[Zg 1 z p _ hz,aq];refine Ok.join λck Cx=>?_
      have lP:=Zr9 out k;refine Zi _ (λq y t=>∃(j z:Nat) (p:ai) (o:ak),y=[.s z p o.length,.i j]/\(z=1\/p=none)/\j<=16/\16-j<=q/\bm st t p (ints o)/\o.length<=2+17*i+j/\mP img (cD out k) g'=mP img o (g'.drop j)) ?_ 16 n _ _ ⟨0,1,p,cD out k,rfl,.inl rfl,by omega,by omega,ho,by omega,rfl⟩ (by omega);rintro q2 y2 u ⟨j,z2,p2,o2,rfl,gS,hj,Ew,du,G4,Jx⟩ dw j4;rw[Zg 1 z2 p2 _ gS,av,aq];by_cases kM:j<16
      .have abz:=I5 (l:=g') (i:=j)
       have⟨w,hw⟩: ∃w,g'.getD j 0=w:=⟨_,rfl⟩;rw[hw]at abz;have ri:(ints g')[j]? =some (.i w):=by rw[<-hw];exact zO
       rw[ax (show(j:Int)<16 by omega),ae,Zb (show aR (j:Int) 16=true from Zj kM)];rw[bp,cR];rw[gZ ri];rw[bg];refine Ok.cv (ZlQ n img w u hl) λu1 cu=>?_
       have gp:=Mx img w;rw[dT];rw[au,aq];rw[bI (by rw[ZB,gp]),bI (by rw[ZB,gp])];have nE:=du.mono cu;rw[abz]at Jx;cases hL:kt img w with
       |none=>
        rw[show(!(none:Option (List bw)).isSome)=true from rfl,ae];refine bad u1 nE.1 ?_;rw[W5,Jx];unfold mP;rw[hL]
       |some l=>
        have N9:mP img (cD out k) g'=mP img (cD o2 w) (g'.drop (j+1)):=by
         rw[Jx]
         conv=>lhs;unfold mP
         rw[hL]
        rw[show(!(some l).isSome)=false from rfl,af,Zb (show aR (j:Int) 16=true from Zj kM),gZ ri];rw[bg];rw[Za];by_cases yH:w=0
        .have j1:cD o2 w=o2:=by unfold cD;rw[yH];rfl
         rw[j1]at N9;rw[yH,show(!((0:Int)==0))=false from rfl,af];simp only[aX,aq];rw[Zc];exact j4 (16-(j+1)) _ _ (by omega) ⟨j+1,1,p2,o2,rfl,.inl rfl,by omega,aO _,nE,by omega,N9⟩
        .have j1:cD o2 w=o2++[w]:=by unfold cD;rw[eG.2 yH];rfl
         rw[j1]at N9;rw[eG.2 yH,bn,ae,Zb (show aR (j:Int) 16=true from Zj kM),gZ ri];rw[bg];have⟨p4,u4,sM,JI⟩:=nE.push (β:=ah) (sz:=1) (n:=o2.length) (lim:=8796093022208) [.i w] (by omega) (jU o2) rfl (by omega);rw[JI];simp only[aX,aq];rw[Zc];rw[<-MB]at sM;exact j4 (16-(j+1)) _ _ (by omega) ⟨j+1,1,p4,o2++[w],by rw[bB,iK];rfl,.inl rfl,by omega,aO _,sM,by rw[bB,iK];omega,N9⟩
      .rw[aF (show ¬(j:Int)<16 by omega),af,Cx]
       simp only[aX,aq];rw[kL];simp only[aX,aq];rw[Zc];rw[lW (by omega)]at Jx;rw[Jx]at W5;exact aN (16-(i+1)) _ _ (by omega) ⟨i+1,1,p2,o2,rfl,.inl rfl,by omega,aO _,du,by omega,W5⟩
     by_cases lO:k=0
     .have j1:cD out k=out:=by unfold cD;rw[lO];rfl
      rw[j1]at WK;rw[lO,show(!((0:Int)==0))=false from rfl,af];grind
     .have j1:cD out k=out++[k]:=by unfold cD;rw[eG.2 lO];rfl
      rw[j1]at WK;rw[eG.2 lO,bn,ae,Zb (show aR (i:Int) 16=true from Zj aw),gZ vq];rw[bg];have⟨p4,u4,sM,JI⟩:=rq.push (β:=ah) (sz:=1) (n:=out.length) (lim:=8796093022208) [.i k] (by omega) (jU out) rfl (by omega);rw[JI];rw[<-MB]at sM;have:=WK 1 p4 u4 (.inl rfl) sM;rwa [bB,iK]at this
   .rw[aF (show ¬(i:Int)<16 by omega),af,jV]
    simp only[aX,aq,Zp];rw[lW (by omega)]at wH;refine .mk ⟨_,Zr ho.1,?_⟩;rw[wH];exact⟨p,rfl,ho.sl.dQ _⟩
  by_cases Hf:top=0
  .have j1:cD [] top=[]:=by unfold cD;rw[Hf];rfl
   rw[j1]at go;rw[Hf,show(!((0:Int)==0))=false from rfl,af];exact go 0 none s1 (.inr rfl) (.nil aH)
  .have j1:cD [] top=[top]:=by unfold cD;rw[eG.2 Hf];rfl
   rw[j1]at go;rw[eG.2 Hf,bn,ae];have⟨p4,u4,sM,JI⟩:=(bm.nil aH).push (β:=ah) (sz:=1) (n:=0) (lim:=8796093022208) [.i top] (by omega) rfl rfl (by omega);rw[JI];exact go 1 p4 u4 (.inl rfl) sM
def uo (img:aj) (k:Int):Option jL:=match jt img k with
 |none=>none
 |some l=>iY l
theorem Zr2 (n:Nat) (img:aj) (k:Int) (st:St) (hl:img.length<1000000) (hn:3002<=n):
  Ok (λo=>∃s',aB st s'/\match uo img k with
   |none=>∃z,o=(.val [.a [.i 0,.i 0,.i 0,.i 0,.s z none 0],.b false],s')
   |some x=>∃q,o=(.val [.a (oA x 1 q),.b true],s')/\Sl s' q (ints x.kids)) (run Bd n 294 [.t img,.i k] st):=by
 obtain⟨n,rfl⟩: ∃m,n=m+2:=⟨n-2,by omega⟩;rw[Ze,h.af1];unfold Sz nU pL Fu eI Bv aZ Fv
 try dsimp only
 rw[bR,av,aq,ZM];refine Ok.call (FC n img k st hl) ?_;rintro o ⟨s1,aH,ho⟩;unfold uo;cases nD:jt img k with
 |none=>
  rw[nD]at ho;simp only at ho;subst ho;refine⟨_,s1,rfl,?_⟩;rw[Zg 1 0 none _ (.inr rfl),au,aq];rw[bn,ae,Zp];exact .mk ⟨_,Zr aH,0,rfl⟩
 |some l=>
  rw[nD]at ho;obtain⟨p,rfl,hf,qY⟩:=ho;refine⟨_,s1,rfl,?_⟩;simp only[aX,au,aq];rw[bu,af];refine Ok.call (Zs7 (n+1) p l s1 hf.1 qY (by omega)) ?_;rintro o ⟨s2,aU,ho⟩;cases hg:iY l with
  |none=>
   rw[hg]at ho;simp only at ho;subst ho;refine⟨_,s2,rfl,?_⟩;rw[dT];simp only[av,Zg 1 0 none _ (.inr rfl),au,aq];rw[Zp];exact .mk ⟨_,Zr (aH.trans aU),1,rfl⟩
  |some x=>
   rw[hg]at ho;obtain⟨q,rfl,hq⟩:=ho;refine⟨_,s2,rfl,?_⟩;rw[dT];unfold oA fk;simp only[nQ,jH,av,aX,au,aq];rw[Zp];exact .mk ⟨_,Zr (aH.trans aU),q,rfl,hq.1.dQ _⟩
def jN (img:aj):Nat->ak->bh->Option (List bh×ak)
 |0,_,_=>some ([],[])
 |j+1,ks,e=>match jN img j ks e with
  |none=>none
  |some (es,bs)=>match uo img (ks.getD j 0)with
   |none=>none
   |some m=>bif decide (m.kids.length=j)then(match jN img j m.kids m.bJ with
    |none=>none
    |some (hY,gP)=>bif fu e m.bJ then some (es++m.bJ::hY,bs++ks.getD j 0::gP)else none)else none
def lD (img:aj) (d:Nat) (k:Int):Option (List bh×ak):=match uo img k with
 |none=>none
 |some m=>bif decide (m.kids.length=d)then(match jN img d m.kids m.bJ with
  |none=>none
  |some (es,bs)=>some (m.bJ::es,k::bs))else none
theorem TN (img:aj) (j:Nat) (ks:ak) (e:bh):jN img (j+1) ks e=(match jN img j ks e with
  |none=>none
  |some (es,bs)=>match lD img j (ks.getD j 0)with
   |none=>none
   |some (fe,ga)=>bif fu e (fe.headD ⟨0,0,0,0⟩)then some (es++fe,bs++ga)else none):=by
 conv=>lhs;unfold jN
 cases jN img j ks e with
 |none=>rfl
 |some q=>
  grind[lD]
theorem Znj {img:aj} {ks:ak} {e:bh} {i:Nat} (h:jN img i ks e=none): ∀d,i<=d->jN img d ks e=none
 |0,hd=>by
  grind
 |d+1,hd=>by
  by_cases hi:i=d+1
  .subst hi;exact h
  .rw[TN,Znj h d (by omega)]
theorem Ia {img:aj} : ∀(j:Nat) (ks:ak) (e:bh) (es:List bh) (bs:ak),jN img j ks e=some (es,bs)->es.length+1=2^j/\bs.length=es.length
 |0,_,_,_,_,h=>by cases h;exact⟨rfl,rfl⟩
 |j+1,ks,e,es,bs,h=>by
  unfold jN at h;cases h1:jN img j ks e with
  |none=>rw[h1]at h;cases h
  |some q=>
   have⟨ye,xW⟩:=q;have⟨a1,a2⟩:=Ia j ks e ye xW h1;rw[h1]at h;simp only at h;cases h2:uo img (ks.getD j 0)with
   |none=>rw[h2]at h;cases h
   |some m=>
    rw[h2]at h;simp only at h;cases h3:decide (m.kids.length=j)with
    |false=>rw[h3]at h;cases h
    |true=>
     rw[h3,ae]at h;cases h4:jN img j m.kids m.bJ with
     |none=>rw[h4]at h;cases h
     |some q=>
      have⟨Al,wu⟩:=q;have⟨b1,b2⟩:=Ia j m.kids m.bJ Al wu h4;rw[h4]at h;grind
theorem Dx {k:Int} {bs:ak} (h:lD img d k=some (es,bs)):es.length=2^d/\bs.length=es.length:=by
 unfold lD at h;cases h2:uo img k with
 |none=>rw[h2]at h;cases h
 |some m=>
  rw[h2]at h;simp only at h;cases h3:decide (m.kids.length=d)with
  |false=>rw[h3]at h;cases h
  |true=>
   rw[h3,ae]at h;cases h4:jN img d m.kids m.bJ with
   |none=>rw[h4]at h;cases h
   |some q=>
    have⟨Al,wu⟩:=q;have⟨b1,b2⟩:=Ia d m.kids m.bJ Al wu h4;rw[h4]at h;grind
def HP (st:St) (R:Option (List bh×ak)) (o:Out ah×St):Prop:=∃s',aB st s'/\match R with
 |none=>o=(.val [.s 0 none 0,.s 0 none 0,.b false],s')
 |some (es,bs)=>∃p q,o=(.val [.s 4 p es.length,.s 1 q bs.length,.b true],s')/\Sl s' p (bY es)/\Sl s' q (ints bs)/\(∀b∈aP q,st.length<=b)/\∀b∈aP p,st.length<=b
theorem M7 (l m:ak):ints (l++m)=ints l++ints m:=by simp[ints]
theorem bm.tN {a:ai} (h:bm s0 s a cs) {m:Nat} (hz:0<sz) (hn:cs.length=n*sz) (hd:ds.length=m*sz) (hl:n+m<=lim):
  ∃p s',bm s0 s' p (cs++ds)/\Fx (aP a) s s'/\(∀b∈aP p,b∈aP a\/s.length<=b)/\∀K:ai->M β,cm sz a n ds m lim K s=K p s':=by
 rcases Bi m with rfl|hm
 .rw[tn]at hd
  rw[zu.1 hd,gz];exact⟨a,s,h,⟨aO _,λ_ _ _ e=>e⟩,λb hb=> .inl hb,λK=>rfl⟩
 .have hb:Nat.beq m 0=false:=by cases m with|zero=>cases hm|succ m=>rfl
  rcases h.2 with⟨rfl,rfl⟩|⟨i,rfl,hi,hs⟩
  .have h0:n=0:=by
    rcases HF.1 (show n*sz=0 by simpa using hn.symm)with h|h
    .exact h
    .omega
   subst h0;refine⟨some (s.length,0),s++[some ⟨false,ds⟩],⟨h.1.trans (.new _ _),.inr ⟨s.length,rfl,h.1.len,by simp⟩⟩,⟨by simp,by grind⟩,λb hb=> .inr (by rw[cB.1 hb];exact aO _),λK=>?_⟩;unfold cm;rw[hb,gA hl,ae,af];rfl
  .have eC:s.ik i=some cs:=by grind[St.ik]
   refine⟨some (s.length,0),s.set i none++[some ⟨false,cs++ds⟩],⟨(tA h.1 hi none).trans (.new _ _),(by grind)⟩,⟨by simp,λb x hbn e=>?_⟩,λb hb=> .inr (by rw[cB.1 hb];exact aO _),λK=>?_⟩
   .have hbi:i≠b:=λe=>hbn (by rw[<-e];exact cB.2 rfl)
    grind
   .unfold cm
    simp only[hb,gA hl,ae,af,eC];rw[eO,gA (by omega)];grind
theorem bm.yi {a:ai} (h:bm s0 s a cs) (k:Fx T s s') (hn: ∀b∈aP a,b∉T) (hp:aB s0 s'):bm s0 s' a cs:=by
 rcases h.2 with⟨rfl,rfl⟩|⟨i,rfl,hi,hs⟩
 .exact⟨hp,.inl ⟨rfl,rfl⟩⟩
 .exact⟨hp,.inr ⟨i,rfl,hi,k.2 i _ (hn i (cB.2 rfl)) hs⟩⟩
theorem bm.pE {a:ai} (h:bm s0 s a cs): ∀b∈aP a,b<s.length:=λb hb=>by
 rcases h.2 with⟨rfl,rfl⟩|⟨i,rfl,hi,hs⟩
 .cases hb
 .rw[cB.1 hb]
  grind
theorem bm.Jt {a:ai} (h:bm s0 s a cs): ∀b∈aP a,s0.length<=b:=λb hb=>by
 rcases h.2 with⟨rfl,rfl⟩|⟨i,rfl,hi,hs⟩
 .cases hb
 .rw[cB.1 hb]
  exact hi
theorem Aa {a:ai} (h: ∀b∈aP a,b∉T):lI T a:=λb o e=>h b (by rw[e];exact cB.2 rfl)
theorem Sl.pE {a:ai} (h:Sl s a cs): ∀b∈aP a,b<s.length:=λb hb=>by
 cases a with
 |none=>cases hb
 |some x=>
  have⟨i,o⟩:=x;rw[cB.1 hb];exact h.lt
theorem ZrB (img:aj) (hl:img.length<1000000): ∀(d:Nat),d<=12->∀(n:Nat) (k:Int) (st:St),3100+d<=n->Ok (HP st (lD img d k)) (run Bd n 271 [.t img,.i k,.i (d:Int)] st):=by
 intro d;induction d using Nat.strongRecOn with
 |_ d ih=>
 intro hd n k st hn;obtain _|n:=n;omega;rw[Ze,h.afN];unfold SR iX Fu aA bV oe Zn FZ sh bq eI sq Li zJ Lb Bx;simp only[bR,av,aq,ZM];refine Ok.call (Zr2 n img k st hl (by omega)) ?_;rintro o ⟨s1,aH,ho⟩;have⟨R,hR⟩: ∃R,lD img d k=R:=⟨_,rfl⟩;rw[hR];have bad: ∀s',aB st s'->R=none->Ok (HP st R) ((bZ st.length [.s 0 none 0,.s 0 none 0,.b false]:M ah) s'):=λs' hp hn=>by
  rw[hn,Zp];exact .mk ⟨_,Zr hp,rfl⟩
 unfold lD at hR;cases hN:uo img k with
 |none=>
  rw[hN]at ho hR;obtain⟨z,rfl⟩:=ho;refine⟨_,s1,rfl,?_⟩;rw[dT];simp only[av,Zg 1 z none _ (.inr rfl),au,aq];rw[Za,bn,ae];simp only[au,aq];rw[ae];exact bad s1 aH hR.symm
 |some m=>
  rw[hN]at ho hR;obtain⟨q,rfl,hq⟩:=ho;simp only at hR;refine⟨_,s1,rfl,?_⟩;rw[dT];unfold oA fk;simp only[nQ,jH,av,aX,au,aq];rw[Za,bu,af,nl m.kids.length d (d:Int) rfl];simp only[au,aq];by_cases Ow:m.kids.length=d
  .rw[ax Ow,ae]at hR
   rw[ax Ow,bu,af,Zz,Zz];have⟨s2,mw⟩: ∃s2,s1++[some (⟨false,[.i m.bJ.slot,.i m.bJ.gen,.i m.bJ.key,.i m.bJ.value]⟩:bO)]=s2:=⟨_,rfl⟩;have⟨s3,wT⟩: ∃s3,s2++[some (⟨false,[.i k]⟩:bO)]=s3:=⟨_,rfl⟩;have aU:aB s1 s2:=by rw[<-mw];exact .new _ _
   have cu:aB s2 s3:=by rw[<-wT];exact .new _ _
   have sO:bm st s3 (some (s1.length,0)) (bY [m.bJ]):=⟨aH.trans (aU.trans cu),.inr ⟨s1.length,rfl,aH.len,cu.get (by rw[<-mw];simp[bY,fk])⟩⟩;have vx:bm st s3 (some (s2.length,0)) (ints [k]):=⟨aH.trans (aU.trans cu),.inr ⟨s2.length,rfl,by have:=aH.len;have:=aU.len;omega,by rw[<-wT];simp[ints]⟩⟩;rw[mw,wT];have dM:s1.length<s2.length:=by rw[<-mw];simp
   refine Ok.join λaI jV=>?_
   refine Zi _ (λc y t=>∃(i:Nat) (pe pb:ai) (es:List bh) (bs:ak),y=[.s 4 pe (es.length+1),.s 1 pb (bs.length+1),.i (i:Int)]/\i<=d/\d-i<=c/\jN img i m.kids m.bJ=some (es,bs)/\bm st t pe (bY (m.bJ::es))/\bm st t pb (ints (k::bs))/\(∀b∈aP pe,s1.length<=b/\b∉aP pb)/\(∀b∈aP pb,s1.length<=b)/\Sl t q (ints m.kids)/\s1.length<=t.length) ?_ d n _ _ ⟨0,some (s1.length,0),some (s2.length,0),[],[],rfl,cz _,by omega,rfl,sO,vx,λb hb=>⟨by rw[cB.1 hb];exact aO _,by rw[cB.1 hb];intro e;have:=cB.1 e;omega⟩,λb hb=>by rw[cB.1 hb];omega,(hq.mono aU).mono cu,by have:=aU.len;have:=cu.len;omega⟩ (by omega);have AK:=hq.pE;rintro c y t ⟨i,pe,pb,es,bs,rfl,hi,hc,hT,sO,vx,OQ,OP,Kl,dA⟩ rec aN;simp only[aX,av,aq];have hlen:=Ia i m.kids m.bJ es bs hT;have iP:2^i<=2^12:=nT (by decide) (by omega);by_cases aw:i<d
   .have⟨w,hw⟩: ∃w,m.kids.getD i 0=w:=⟨_,rfl⟩
    have ri:(ints m.kids)[i]? =some (.i w):=by rw[<-hw];exact zO
    obtain⟨i1,o1,rfl⟩:=Kl.cH (by rw[Zy];omega);rw[ax (show(i:Int)<(d:Int) by omega),ae,bd,Zb (Zj)];rw[bp];rw[Kl.dJ ri];rw[bg];have ry:=TN img i m.kids m.bJ;rw[hT,hw]at ry;simp only at ry;refine Ok.call (ih i aw (by omega) n w t (by omega)) ?_;rintro o ⟨t1,jA,ho⟩;have Kb:=sO.mono jA;have XW:=vx.mono jA;have fail:jN img (i+1) m.kids m.bJ=none->Ok (HP st R) ((bZ st.length [.s 0 none 0,.s 0 none 0,.b false]:M ah) t1):=λhf=>by
     refine bad t1 Kb.1 ?_;rw[<-hR,Znj hf d (by omega)]
    cases hS:lD img i w with
    |none=>
     rw[hS]at ho ry;simp only at ho;subst ho;refine⟨_,t1,rfl,?_⟩;rw[Zg 4 0 none _ (.inr rfl),Zg 1 0 none _ (.inr rfl),au,aq];rw[Za,bn,ae];simp only[au,aq];rw[ae];exact fail ry
    |some qq=>
     have⟨fe,ga⟩:=qq;rw[hS]at ho ry;obtain⟨px,py,rfl,Ki,X9,Yb,_⟩:=ho;refine⟨_,t1,rfl,?_⟩;have fY:=Dx hS;obtain⟨e0,AQ,rfl⟩: ∃e0 AQ,fe=e0::AQ:=by
      cases fe with
      |nil=>have:=fY.1;rw[Bh]at this;omega
      |cons a b=>exact⟨a,b,rfl⟩
     simp only[aX,au,aq];rw[Za,bu,af];obtain⟨i4,o4,rfl⟩:=Ki.cH (by rw[Zt,cO];omega);rw[bd,Zb (show aR 0 (e0::AQ).length=true from Zj (i:=0) (by simp)),Ki.yj (k:=0) (n:=4) (by rw[Zt,cO];omega)];show Ok _ (aD .i64 (fk e0) _ t1);unfold fk;simp only[av,aq];have GF:=Ro (n-1) m.bJ e0 t1;rw[show n-1+1=n by omega]at GF;unfold fk at GF;rw[Zk GF];simp only[au,aq];simp only[List.headD_cons]at ry;cases hA:fu m.bJ e0 with
     |false=>
      rw[hA,af]at ry;rw[bn,ae];exact fail ry
     |true=>
      rw[hA,ae]at ry;rw[bu,af];have r1: ∀K:ah->M ah,dy (some (i4,o4)) ((e0::AQ).length*4) K t1=K (bY (e0::AQ)) t1:=λK=>by
       have:=iR Ki K;rwa [Zt]at this
      rw[r1];have⟨p5,t5,qc,mX,D9,JJ⟩:=Kb.tN (β:=ah) (sz:=4) (n:=es.length+1) (m:=(e0::AQ).length) (lim:=2199023255552) (ds:=bY (e0::AQ)) (by omega) (by rw[Zt];rfl) (by rw[Zt]) (by omega);rw[JJ];have ui:=jA.len;have X3:=sO.pE;have aie:=vx.pE;have Ya:Sl t5 py (ints ga):=X9.fx mX (Aa λb hb c9=>by have:=Yb b hb;have:=X3 b c9;omega);have r2: ∀K:ah->M ah,dy py (ga.length*1) K t5=K (ints ga) t5:=λK=>by
       have:=iR Ya K;rwa [Zy,<-cR ga.length]at this
      rw[r2];have XX:bm st t5 pb (ints (k::bs)):=XW.yi mX (by grind) qc.1;have⟨p6,t6,mq,rh,yp,tZ⟩:=XX.tN (β:=ah) (sz:=1) (n:=bs.length+1) (m:=ga.length) (lim:=8796093022208) (ds:=ints ga) (by omega) (by rw[Zy,cR];rfl) (by rw[Zy,cR]) (by omega);rw[tZ];have X2: ∀b∈aP p5,b∉aP pb:=λb hb c9=>by
       grind
      have OF:bm st t6 p5 (bY (m.bJ::es)++bY (e0::AQ)):=qc.yi rh X2 mq.1;rw[Zc];refine aN (d-(i+1)) _ _ (by omega) ⟨i+1,p5,p6,es++e0::AQ,bs++ga,?_,by omega,aO _,ry,?_,?_,λb hb=>⟨?_,λc9=>?_⟩,λb hb=>?_,?_,by have:=mX.1;have:=rh.1;omega⟩
      .grind
      .rw[<-zP]at OF;exact OF
      .rw[<-M7]at mq;exact mq
      .rcases D9 b hb with h1|h1
       .exact(OQ b h1).1
       .omega
      .have h5l:=qc.pE b hb
       grind
      .rcases yp b hb with h1|h1
       .exact OP b h1
       .have:=mX.1;omega
      .exact((Kl.mono jA).fx mX (Aa λb hb c9=>by have:=AK b hb;have:=(OQ b c9).1;omega)).fx rh (Aa λb hb c9=>by have:=AK b hb;have:=OP b c9;omega)
   .rw[aF (show ¬(i:Int)<(d:Int) by omega),af,jV]
    have hid:i=d:=by omega
    subst hid;rw[hT]at hR;simp only[aX,aq,Zp];refine .mk ⟨_,Zr sO.1,?_⟩;rw[<-hR];exact⟨pe,pb,rfl,sO.sl.dQ _,vx.sl.dQ _,vx.Jt,sO.Jt⟩
  .rw[aF Ow,af]at hR
   rw[aF Ow,bn,ae];exact bad s1 aH hR.symm
def lM (img:aj):Nat->ak->List bh->ak->Option (List bh×ak)
 |_,[],es,bs=>some (es,bs)
 |i,k::r,es,bs=>bif k==0 then lM img (i+1) r es bs else match lD img i k with
  |none=>none
  |some (fe,ga)=>lM img (i+1) r (es++fe) (bs++ga)
def uX (img:aj) (r:ak):Option (List bh×ak):=lM img 0 r [] []
theorem Zov (n:Nat) (img:aj) (r:ak) (st:St) (hl:img.length<1000000) (hr:r.length=12) (hn:3200<=n):
  Ok (HP st (uX img r)) (run Bd n 246 [.t img,.a (ints r)] st):=by
 obtain _|n:=n;omega;rw[Ze,h.afq];unfold Rk bV oe FZ zJ sq
 try dsimp only
 rw[bR];rw[dT,bI (by rw[Zy];exact hr)];rw[aq,ZM];rw[bI (by rw[Zy];exact hr)];have⟨R,hR⟩: ∃R,uX img r=R:=⟨_,rfl⟩;rw[hR];have bad: ∀s',aB st s'->R=none->Ok (HP st R) ((bZ st.length [.s 0 none 0,.s 0 none 0,.b false]:M ah) s'):=λs' hp hn=>by
  rw[hn,Zp];exact .mk ⟨_,Zr hp,rfl⟩
 refine Ok.join λaz nB=>?_
 refine Zi _ (λc y t=>∃(i z1 z2:Nat) (pe pb:ai) (es:List bh) (bs:ak),y=[.s z1 pe es.length,.s z2 pb bs.length,.i (i:Int)]/\(z1=4\/pe=none)/\(z2=1\/pb=none)/\i<=12/\12-i<=c/\R=lM img i (r.drop i) es bs/\bm st t pe (bY es)/\bm st t pb (ints bs)/\(∀b∈aP pe,b∉aP pb)/\es.length+1<=2^i/\bs.length=es.length) ?_ 12 n _ _ ⟨0,0,0,none,none,[],[],rfl,.inr rfl,.inr rfl,by omega,by omega,by rw[dK];exact hR.symm,.nil (.refl _),.nil (.refl _),λb hb=>(by cases hb),by simp,rfl⟩ (by omega);rintro c y t ⟨i,z1,z2,pe,pb,es,bs,rfl,kQ,gS,hi,hc,wH,sO,vx,OQ,hel,jl⟩ rec aN;rw[Zg 4 z1 pe _ kQ,Zg 1 z2 pb _ gS,av,aq];have iP:2^i<=2^12:=nT (by decide) (by omega);by_cases aw:i<12
 .have fW:=I5 (l:=r) (i:=i)
  have⟨k,hk⟩: ∃k,r.getD i 0=k:=⟨_,rfl⟩;rw[hk]at fW;have vq:(ints r)[i]? =some (.i k):=by rw[<-hk];exact zO
  rw[fW]at wH;rw[ax (show(i:Int)<12 by omega),ae,Za,Zb (show aR (i:Int) 12=true from Zj aw)];simp only[bp,cR];rw[gZ vq];rw[bg];by_cases lO:k=0
  .have hR0:R=lM img (i+1) (r.drop (i+1)) es bs:=by
    rw[wH]
    conv=>lhs;unfold lM
    rw[lO];rfl
   rw[lO,xq,ae];simp only[aX,aq];rw[Zc];exact aN (12-(i+1)) _ _ (by omega) ⟨i+1,4,1,pe,pb,es,bs,rfl,.inl rfl,.inl rfl,by omega,aO _,hR0,sO,vx,OQ,by omega,jl⟩
  .have Au:R=(match lD img i k with|none=>none|some (fe,ga)=>lM img (i+1) (r.drop (i+1)) (es++fe) (bs++ga)):=by
    rw[wH]
    conv=>lhs;unfold lM
    rw[eG.2 lO];rfl
   rw[eG.2 lO,af,Zb (show aR (i:Int) 12=true from Zj aw),gZ vq];rw[bg];refine Ok.call (ZrB img hl i (by omega) n k t (by omega)) ?_;rintro o ⟨t1,jA,ho⟩;have Kb:=sO.mono jA;have XW:=vx.mono jA;cases hS:lD img i k with
   |none=>
    rw[hS]at ho Au;simp only at ho;subst ho;refine⟨_,t1,rfl,?_⟩;rw[Zg 4 0 none _ (.inr rfl),Zg 1 0 none _ (.inr rfl),au,aq];rw[bn,ae];exact bad t1 Kb.1 Au
   |some qq=>
    have⟨fe,ga⟩:=qq;rw[hS]at ho Au;obtain⟨px,py,rfl,Ki,X9,Yb,_⟩:=ho;refine⟨_,t1,rfl,?_⟩;have fY:=Dx hS;simp only[aX,au,aq];rw[bu,af];have r1: ∀K:ah->M ah,dy px (fe.length*4) K t1=K (bY fe) t1:=λK=>by
     have:=iR Ki K;rwa [Zt]at this
    rw[r1];have⟨p5,t5,qc,mX,D9,JJ⟩:=Kb.tN (β:=ah) (sz:=4) (n:=es.length) (m:=fe.length) (lim:=2199023255552) (ds:=bY fe) (by omega) (by rw[Zt]) (by rw[Zt]) (by omega);rw[JJ];have ui:=jA.len;have X3:=sO.pE;have aie:=vx.pE;have Ya:Sl t5 py (ints ga):=X9.fx mX (Aa λb hb c9=>by have:=Yb b hb;have:=X3 b c9;omega);have r2: ∀K:ah->M ah,dy py ga.length K t5=K (ints ga) t5:=λK=>by
     have:=iR Ya K;rwa [Zy]at this
    rw[r2];have XX:bm st t5 pb (ints bs):=XW.yi mX (by grind) qc.1;have⟨p6,t6,mq,rh,yp,tZ⟩:=XX.tN (β:=ah) (sz:=1) (n:=bs.length) (m:=ga.length) (lim:=8796093022208) (ds:=ints ga) (by omega) (by rw[Zy,cR]) (by rw[Zy,cR]) (by omega);rw[tZ];have X2: ∀b∈aP p5,b∉aP pb:=λb hb c9=>by
     grind
    have OF:bm st t6 p5 (bY es++bY fe):=qc.yi rh X2 mq.1;rw[Zc];refine aN (12-(i+1)) _ _ (by omega) ⟨i+1,4,1,p5,p6,es++fe,bs++ga,?_,.inl rfl,.inl rfl,by omega,aO _,Au,?_,?_,λb hb c9=>?_,?_,?_⟩
    .rw[bB,bB]
     rfl
    .rw[zP];exact OF
    .rw[M7];exact mq
    .have h5l:=qc.pE b hb
     grind
    .rw[bB];omega
    grind
 .rw[aF (show ¬(i:Int)<12 by omega),af,nB]
  rw[lW (by omega)]at wH;simp only[aX,aq,Zp];refine .mk ⟨_,Zr sO.1,?_⟩;rw[wH];exact⟨pe,pb,rfl,sO.sl.dQ _,vx.sl.dQ _,vx.Jt,sO.Jt⟩
def rD (e:bh) (out:List bh):Nat->Nat
 |0=>0
 |k+1=>bif fu e (out.getD k ⟨0,0,0,0⟩)then rD e out k else k+1
def qf (out:List bh) (e:bh):List bh:=out.take (rD e out out.length)++e::out.drop (rD e out out.length)
def jM (l:List bh):List bh:=l.foldl qf []
theorem Zu0 (e:bh) (out:List bh): ∀k,rD e out k<=k
 |0=>aO _
 |k+1=>by
  unfold rD;cases fu e (out.getD k ⟨0,0,0,0⟩)with
  |true=>exact Nat.le_succ_of_le (Zu0 e out k)
  |false=>exact aO _
theorem Vk (out:List bh) (e:bh):(qf out e).length=out.length+1:=by
 grind[qf]
theorem ZxB (e:bh):bY [e]=fk e:=by unfold bY;simp
theorem Zvk (l:List bh) (k:Nat):bY (l.take k)=(bY l).take (k*4):=by
 rcases Nat.le_total k l.length with h|h
 .have h2:=zP (l.take k) (l.drop k)
  rw[rS]at h2;have h3:(bY (l.take k)).length=k*4:=by rw[Zt,cX];omega
  rw[h2,<-h3];simp
 .rw[dG h,dG (by rw[Zt];omega)]
theorem Zvy (l:List bh) (k:Nat):bY (l.drop k)=(bY l).drop (k*4):=by
 rcases Nat.le_total k l.length with h|h
 .have h2:=zP (l.take k) (l.drop k)
  rw[rS]at h2;have h3:(bY (l.take k)).length=k*4:=by rw[Zt,cX];omega
  rw[h2,<-h3];simp
 .rw[lW h,lW (by rw[Zt];omega)]
  rfl
theorem ZoH (n:Nat) (l:List bh) (z:Nat) (p:ai) (st:St) (hz:z=4\/p=none) (hs:Sl st p (bY l)) (hl:l.length<100000) (hn:l.length+10<=n):
  Ok (λo=>∃q s',o=(.val [.s 4 q (jM l).length],s')/\aB st s'/\Sl s' q (bY (jM l))/\∀b∈aP q,st.length<=b) (run Bd n 247 [.s z p l.length] st):=by
 obtain⟨n,rfl⟩: ∃m,n=m+2:=⟨n-2,by omega⟩;rw[Ze,h.afr];unfold Rm Dl cP oL N_ sh cN aA bq rY Li Bx Lb iw
 try dsimp only
 rw[Zg 4 z p _ hz,aq,ZM];refine Ok.join λaz nB=>?_
 refine Zi _ (λc y t=>∃(i z1:Nat) (po:ai) (out:List bh),y=[.s z1 po out.length,.i (i:Int)]/\(z1=4\/po=none)/\i<=l.length/\l.length-i<=c/\aB st t/\Sl t po (bY out)/\out=(l.take i).foldl qf []/\out.length=i/\∀b∈aP po,st.length<=b) ?_ l.length (n+1) _ _ ⟨0,0,none,[],rfl,.inr rfl,cz _,by omega,.refl _,Sl.nil _,rfl,rfl,λb hb=>by cases hb⟩ (by omega);rintro c y t ⟨i,z1,po,out,rfl,kQ,hi,hc,jA,vC,Es,hZ,aih⟩ rec aN;rw[Zg 4 z1 po _ kQ,av,aq];by_cases aw:i<l.length
 .obtain⟨i1,o1,rfl⟩:=hs.cH (by rw[Zt];omega)
  have da:l[i]? =some l[i]:=cq aw;have fZ:l.take (i+1)=l.take i++[l[i]]:=lX aw;generalize l[i]=e at da fZ;have cg:=hs.mono jA;have lde: ∀(K:ah->M ah) (u:St),Sl u (some (i1,o1)) (bY l)->bS i1 (i*4+o1) 4 K u=K (fk e) u:=λK u hu=>by
   rw[hu.yj (k:=i*4) (n:=4) (by rw[Zt];omega),DC da]
  have ah7:(l.take (i+1)).foldl qf []=qf out e:=by rw[fZ,zs,<-Es];rfl
  rw[ax (show(i:Int)<(l.length:Int) by omega),ae];refine Ok.join λaI jV=>?_
  refine Ok.join λaW kL=>?_
  refine Zi _ (λc y u=>∃k:Nat,y=[.i (k:Int)]/\k<=out.length/\k<=c/\u=t/\rD e out out.length=rD e out k) ?_ out.length (n+1) _ _ (by grind) (by omega);rintro c2 y2 u ⟨k,rfl,hk,kJ,rfl,wR⟩ dw j4;rw[av,aq];have fin:rD e out out.length=k->Ok (λo=>∃q s',o=(.val [.s 4 q (jM l).length],s')/\aB st s'/\Sl s' q (bY (jM l))/\∀b∈aP q,st.length<=b) (aW [.i (k:Int)] u):=λhp=>by
   subst kL;simp only[av,aq,bp];rw[Zb (by rw[aY,br,br];omega)];have h1:=vC.lC (k*4);have Aq:((bY out).take (k*4)).length=k*4:=by rw[cX,Zt];omega
   have e1: ∀K:ah->M ah,dy po (k*4) K u=K ((bY out).take (k*4)) u:=λK=>by
    have:=iR h1 K;rwa [Aq]at this
   rw[e1];have⟨r1,s1,rq,Xk⟩:=(bm.nil (aB.refl u)).NH (β:=ah) (sz:=4) (n:=0) (m:=k) (lim:=2199023255552) (ds:=(bY out).take (k*4)) (by omega) rfl Aq (by omega);rw[Xk,jH]at*
   rw[bd,Zb (Zj aw),lde _ s1 (cg.mono rq.1)];unfold fk;simp only[av,aq];have⟨r2,s2,du,vl⟩:=rq.push (β:=ah) (sz:=4) (n:=0+k) (lim:=2199023255552) [.i e.slot,.i e.gen,.i e.key,.i e.value] (by omega) (by rw[Aq];omega) rfl (by omega);rw[vl];rw[Zb (by rw[aY,br,br];omega)];have h2:=(vC.mono du.1).cU (k:=k*4) (by rw[Zt];omega);have Ar:((bY out).drop (k*4)).length=(out.length-k)*4:=by rw[fa,Zt];omega
   have e2: ∀K:ah->M ah,dy (cU true po (k*4)) ((out.length-k)*4) K s2=K ((bY out).drop (k*4)) s2:=λK=>by
    have:=iR h2 K;rwa [Ar]at this
   rw[e2];have⟨r3,s3,nE,Xl⟩:=du.NH (β:=ah) (sz:=4) (n:=0+k+1) (m:=out.length-k) (lim:=2199023255552) (ds:=(bY out).drop (k*4)) (by omega) (by rw[bB,Aq];simp;omega) Ar (by omega);rw[Xl,jV];simp only[aX,aq];have gM:(bY out).take (k*4)++[.i e.slot,.i e.gen,.i e.key,.i e.value]++(bY out).drop (k*4)=bY (qf out e):=by
    unfold qf;rw[hp,zP,Zvk,show e::out.drop k=[e]++out.drop k from rfl,zP,ZxB,Zvy,fI];rfl
   rw[gM]at nE;rw[Zc];refine aN (l.length-(i+1)) _ _ (by omega) ⟨i+1,4,r3,qf out e,?_,.inl rfl,by omega,aO _,jA.trans nE.1,nE.sl,ah7.symm,by rw[Vk,hZ],λb hb=>gY jA.len (nE.Jt b hb)⟩;rw[Vk,show 0+k+1+(out.length-k)=out.length+1 by omega];rfl
  rw[Za];cases k with
  |zero=>
   rw[aF (by omega),af];simp only[au,aq,af];exact fin wR
  |succ k=>
   rw[ax (show((k+1:Nat):Int)>0 by omega),ae,bd,Zb (Zj aw)];rw[bp];rw[lde _ u cg];unfold fk;simp only[av,aq];obtain⟨i5,o5,rfl⟩:=vC.cH (by rw[Zt];omega);have aQ:out[k]? =some (out.getD k ⟨0,0,0,0⟩):=by
    rw[dW,cq (show k<out.length by omega)];rfl
   have j1:rD e out (k+1)=bif fu e (out.getD k ⟨0,0,0,0⟩)then rD e out k else k+1:=rfl;generalize out.getD k ⟨0,0,0,0⟩=f at aQ j1;have KA:ar (((k+1:Nat):Int)-1)=(k:Int):=by rw[Zc];omega
   rw[KA,bd,Zb (Zj)];rw[bp];rw[vC.yj (k:=k*4) (n:=4) (by rw[Zt];omega),DC aQ];unfold fk;simp only[av,aq];have GF:=Ro n e f u;unfold fk at GF;rw[Zk GF];simp only[au,aq];grind
 .rw[aF (show ¬(i:Int)<(l.length:Int) by omega),af,nB]
  simp only[aX,aq,Zp];rw[dG (by omega)]at Es;have Hd:out=jM l:=Es;rw[Hd]at vC⊢;exact .mk ⟨po,_,rfl,Zr jA,vC.dQ _,aih⟩
def ur (l:List ZH):ah:=(l.map Z0).flatten
def HN (l:List ZH):Prop:=∀x∈l,x.dz.length=12/\x.name.length<=28
theorem BD {x:ZH} (h:x.dz.length=12):(Z0 x).length=14:=by
 simp[Z0,cO,Zy,h]
theorem IY: ∀ {l:List ZH},HN l->(ur l).length=l.length*14
 |[],_=>rfl
 |x::l,h=>by
  have h1:=BD (h x uv).1;have h2:=IY (l:=l) λy hy=>h y (zy _ hy)
  show(Z0 x++ur l).length=_;rw[bB,h1,h2,cO];omega
theorem Nn: ∀ {l:List ZH},HN l->∀ {j:Nat} {x:ZH},l[j]? =some x->∀k,k<14->(ur l)[j*14+k]? =(Z0 x)[k]?
 |[],_,_,_,h,_,_=>by cases h
 |y::l,hq,j,x,h,k,hk=>by
  have h1:=BD (hq y uv).1;show(Z0 y++ur l)[j*14+k]? =_;cases j with
  |zero=>
   grind
  |succ j=>
   rw[kX (by omega),h1,show(j+1)*14+k-14=j*14+k by omega];exact Nn (λz hz=>hq z (zy _ hz)) (by simpa using h) k hk
theorem Zx1 (l:List ZH) (x:ZH):ur (l++[x])=ur l++Z0 x:=by unfold ur;simp
def w9 (qs:List ZH) (q:ZH):Bool:=match qs.getLast? with
 |none=>true
 |some p=>decide (cmpL (dB p.name) (dB q.name)<0)
def mF (img:aj):List ZH->ak->Option (List ZH)
 |qs,[]=>some qs
 |qs,k::r=>match jt img k with
  |none=>none
  |some c=>match ZJ c with
   |none=>none
   |some q=>bif w9 qs q then mF img (qs++[q]) r else none
def vI (img:aj) (dir:Int):Option (List ZH×ak):=if dir=0 then some ([],[])else match jt img dir with
 |none=>none
 |some b=>match lj b with
  |none=>none
  |some l=>match mF img [] l with
   |none=>none
   |some qs=>some (qs,dir::l)
def LL (st:St) (R:Option (List ZH×ak)) (o:Out ah×St):Prop:=∃s',aB st s'/\match R with
 |none=>o=(.val [.s 0 none 0,.s 0 none 0,.b false],s')
 |some (qs,bs)=>∃z p z2 q,o=(.val [.s z p qs.length,.s z2 q bs.length,.b true],s')/\(z=14\/p=none)/\(z2=1\/q=none)/\Sl s' p (ur qs)/\Sl s' q (ints bs)/\HN qs/\qs.length<=16/\bs.length<=17
theorem ZrM (n:Nat) (img:aj) (dir:Int) (st:St) (hl:img.length<1000000) (hn:3100<=n):
  Ok (LL st (vI img dir)) (run Bd n 245 [.t img,.i dir] st):=by
 obtain⟨n,rfl⟩: ∃m,n=m+2:=⟨n-2,by omega⟩;rw[Ze,h.afp];unfold SQ nU pL cP Zn jg aA cw sq eI aZ Li Lb iw
 try dsimp only
 rw[bR,av,aq,ZM];have⟨R,hR⟩: ∃R,vI img dir=R:=⟨_,rfl⟩;rw[hR];have bad: ∀s',aB st s'->R=none->Ok (LL st R) ((bZ st.length [.s 0 none 0,.s 0 none 0,.b false]:M ah) s'):=λs' hp hn=>by
  rw[hn,Zp];exact .mk ⟨_,Zr hp,rfl⟩
 unfold vI at hR;by_cases h0:dir=0
 .rw[bE h0]at hR
  rw[h0,xq,ae,Zp];refine .mk ⟨_,Zr (.refl st),?_⟩;rw[<-hR];exact⟨0,none,0,none,rfl,.inr rfl,.inr rfl,Sl.nil _,Sl.nil _,λx hx=>(by cases hx),by simp,by simp⟩
 rw[bj h0]at hR;rw[eG.2 h0,af];refine Ok.call (FC n img dir st hl) ?_;rintro o ⟨s1,aH,ho⟩;cases nD:jt img dir with
 |none=>
  rw[nD]at ho hR;simp only at ho;subst ho;refine⟨_,s1,rfl,?_⟩;rw[Zg 1 0 none _ (.inr rfl),au,aq];rw[bn,ae];exact bad s1 aH hR.symm
 |some b=>
 rw[nD]at ho hR;obtain⟨p,rfl,hf,qY⟩:=ho;simp only at hR;refine⟨_,s1,rfl,?_⟩;rw[aX,au,aq];rw[bu,af];refine Ok.call (Zo5 (n+1) p b s1 hf.1 qY (by omega)) ?_;rintro o ⟨s2,aU,ho⟩;have iP:=aH.trans aU;cases hg:lj b with
 |none=>
  rw[hg]at ho hR;simp only at ho;subst ho;refine⟨_,s2,rfl,?_⟩;rw[Zg 1 0 none _ (.inr rfl),au,aq];rw[bn,ae];exact bad s2 iP hR.symm
 |some l=>
 rw[hg]at ho hR;obtain⟨pl,rfl,dA,gp⟩:=ho;simp only at hR;refine⟨_,s2,rfl,?_⟩;rw[aX,au,aq];rw[bu,af];refine Ok.join λaz nB=>?_
 have aif:=dA.pE;refine Zi _ (λc y t=>∃(i z:Nat) (pq:ai) (qs:List ZH),y=[.s z pq qs.length,.i (i:Int)]/\(z=14\/pq=none)/\i<=l.length/\l.length-i<=c/\bm st t pq (ur qs)/\HN qs/\qs.length=i/\mF img [] l=mF img qs (l.drop i)/\Sl t pl (ints l)/\(∀b∈aP pq,s2.length<=b)/\s2.length<=t.length) ?_ l.length (n+1) _ _ ⟨0,0,none,[],rfl,.inr rfl,cz _,by omega,.nil iP,λx hx=>(by cases hx),rfl,by rw[dK],dA,λb hb=>(by cases hb),aO _⟩ (by omega);rintro c y t ⟨i,z,pq,qs,rfl,hz,hi,hc,gq,vi,AK,Kj,O3,hpq,Ku⟩ rec aN;rw[Zg 14 z pq _ hz,av,aq];by_cases aw:i<l.length
 .have fW:=I5 (l:=l) (i:=i) aw
  have⟨k,hk⟩: ∃k,l.getD i 0=k:=⟨_,rfl⟩;rw[hk]at fW;have vq:(ints l)[i]? =some (.i k):=by rw[<-hk];exact zO aw
  obtain⟨i1,o1,rfl⟩:=O3.cH (by rw[Zy];omega);rw[ax (show(i:Int)<(l.length:Int) by omega),ae,bd,Zb (Zj aw)];rw[bp];rw[O3.dJ vq];rw[bg];rw[fW]at Kj;have fail: ∀u,aB st u->mF img qs (k::l.drop (i+1))=none->Ok (LL st R) ((bZ st.length [.s 0 none 0,.s 0 none 0,.b false]:M ah) u):=λu hu hf=>by
   refine bad u hu ?_;rw[Kj,hf]at hR;exact hR.symm
  refine Ok.call (FC n img k t hl) ?_;rintro o ⟨t1,jA,ho⟩;have G5:=gq.mono jA;cases JX:jt img k with
  |none=>
   rw[JX]at ho;simp only at ho;subst ho;refine⟨_,t1,rfl,?_⟩;rw[Zg 1 0 none _ (.inr rfl),au,aq];rw[bn,ae];exact fail t1 G5.1 (by unfold mF;rw[JX])
  |some cb=>
   rw[JX]at ho;obtain⟨pc,rfl,Om,agS⟩:=ho;refine⟨_,t1,rfl,?_⟩;rw[aX,au,aq];rw[bu,af];refine Ok.call (Zs9 (n+1) pc cb t1 Om.1 agS (by omega)) ?_;rintro o ⟨t2,X6,ho⟩;have rr:=G5.mono X6;cases Oo:ZJ cb with
   |none=>
    rw[Oo]at ho;simp only at ho;subst ho;refine⟨_,t2,rfl,?_⟩;rw[dT];have Gu:(ints DX.dz).length=12:=rfl;unfold Z0;rw[bR,av];rw[bI Gu];rw[au,aq];rw[bI (by rw[cO,cO,Gu]),Za,bn,ae];simp only[au,aq];rw[ae];exact fail t2 rr.1 (by unfold mF;rw[JX];simp only;rw[Oo])
   |some q=>
    rw[Oo]at ho;obtain⟨rfl,yD⟩:=ho;have OV:q.name.length<=28:=by have:=(RO Oo).1;omega
    refine⟨_,t2,rfl,?_⟩;have ny:Z0 q=DV.t q.name::DV.i (q.mask:Int)::ints q.dz:=rfl;rw[dT,ny];rw[bR,av];have ahv:(ints q.dz).length=12:=by rw[Zy];exact yD
    rw[bI ahv];rw[au,aq];rw[<-ny,bI (BD yD)];have Yc:mF img qs (k::l.drop (i+1))=bif w9 qs q then mF img (qs++[q]) (l.drop (i+1))else none:=by
     conv=>lhs;unfold mF
     rw[JX];grind
    have go: ∀u,aB t2 u->w9 qs q=true->Ok (LL st R) ((cd (Z0 q) λi3=>bS i3 0 14 λcC=>cm 14 pq qs.length cC 1 586406201480 λp1=>rec [.s 14 p1 (qs.length+1),.i (ar ((i:Int)+1))]) u):=λu hu XR=>by
     rw[XR,ae]at Yc;have aib:=rr.mono hu;have ig:aB u (u++[some ⟨false,Z0 q⟩]):= .new _ _;rw[Zz,Z8 (f:=false) (all:=Z0 q) (by simp) (by rw[BD yD];omega),dK,dG (by rw[BD yD];omega)];have⟨p6,u6,mq,rh,yp,tZ⟩:=(aib.mono ig).tN (β:=ah) (sz:=14) (n:=qs.length) (m:=1) (lim:=586406201480) (ds:=Z0 q) (by omega) (IY vi) (by rw[BD yD]) (by omega);rw[tZ,Zc];have hlen:=((jA.trans X6).trans (hu.trans ig)).len;refine aN (l.length-(i+1)) _ _ (by omega) ⟨i+1,14,p6,qs++[q],by rw[bB,iK];rfl,.inl rfl,by omega,aO _,by rw[Zx1];exact mq,λx hx=>?_,by rw[bB,iK,AK],by rw[Kj,Yc],?_,?_,by have:=rh.1;omega⟩
     .rcases gx.1 hx with hx|hx
      .exact vi x hx
      grind
     .exact(O3.mono ((jA.trans X6).trans (hu.trans ig))).fx rh (Aa λb hb c9=>by have:=aif b hb;have:=hpq b c9;omega)
     grind
    rw[Za,bu,af,Za];by_cases vr:i=0
    .have aip:qs=[]:=by grind
     rw[aF (show ¬(i:Int)>0 by omega),af];simp only[au,aq];rw[af,bI (BD yD)];exact go t2 (.refl _) (by rw[aip];rfl)
    .have hx:qs[i-1]? =some (qs[i-1]'(by omega)):=by grind
     have JV:qs.getLast?=qs[i-1]? :=by rw[List.getLast?_eq_getElem?,AK]
     have agR:=vi _ (kA (show i-1<qs.length by omega));generalize qs[i-1]'(by omega)=pv at hx agR;obtain⟨i5,o5,rfl⟩:=rr.sl.cH (by rw[IY vi];omega);have cL:(ur qs)[(i-1)*14]? =some (.t pv.name):=by
      have:=Nn vi hx 0 (by omega);rw[gV]at this;rw[this];rfl
     rw[ax (show(i:Int)>0 by omega),ae,bd,Zc,show(i:Int)-1=((i-1:Nat):Int) by omega,Zb (Zj)];rw[bp];rw[rr.sl.get cL];rw[zF];refine Ok.cv (Zir (n+1) pv.name q.name (by omega) (by omega) (by omega) (by omega) t2) λt3 aik=>?_
     simp only[av,au,aq];have XR:w9 qs q=decide (cmpL (dB pv.name) (dB q.name)<0):=by
      unfold w9;rw[JV,hx]
     by_cases Oh:cmpL (dB pv.name) (dB q.name)>=0
     .rw[ax Oh,ae]
      refine fail t3 (rr.mono aik).1 ?_;rw[Yc,XR,aF (by omega)];rfl
     .rw[aF Oh,af,bI (BD yD)]
      grind
 .rw[aF (show ¬(i:Int)<(l.length:Int) by omega),af,nB]
  rw[lW (by omega)]at Kj;rw[Kj]at hR;simp only[aX,aq];rw[Zz];have ig:aB t (t++[some ⟨false,[.i dir]⟩]):= .new _ _;have aia:=gq.mono ig;have r1: ∀K:ah->M ah,dy pl (l.length*1) K (t++[some ⟨false,[.i dir]⟩])=K (ints l) (t++[some ⟨false,[.i dir]⟩]):=λK=>by
   have:=iR (O3.mono ig) K;rwa [Zy,<-cR l.length]at this
  rw[r1];have hod:bm st (t++[some (⟨false,[.i dir]⟩:bO)]) (some (t.length,0)) (ints [dir]):=⟨gq.1.trans ig,.inr ⟨t.length,rfl,gq.1.len,by simp[ints]⟩⟩;have⟨p6,u6,mq,rh,yp,tZ⟩:=hod.tN (β:=ah) (sz:=1) (n:=1) (m:=l.length) (lim:=8796093022208) (ds:=ints l) (by omega) rfl (by rw[Zy,cR]) (by omega);have aio:=gq.pE;have ah9:bm st u6 pq (ur qs):=aia.yi rh (λb hb c9=>by have:=aio b hb;have:=cB.1 c9;omega) mq.1;rw[tZ,Zp];refine .mk ⟨_,Zr mq.1,?_⟩;rw[<-hR];refine⟨14,pq,1,p6,?_,.inl rfl,.inl rfl,ah9.sl.dQ _,?_,vi,by omega,by simp;omega⟩
  .rw[cO,tm 1 l.length]
  .have:ints (dir::l)=ints [dir]++ints l:=rfl
   rw[this];exact mq.sl.dQ _
def lL (img:aj) (top:Int) (u:Nat) (g:Int):Nat->Nat->List bw->Option (List bw)
 |0,_,l=>some l
 |c+1,i,l=>match mh img top i with
  |none=>none
  |some s=>bif decide (u<=i)then(bif og s then lL img top u g c (i+1) l else none)else(bif decide (s.gen<1)||decide (s.gen>g)then none else lL img top u g c (i+1) (l++[s]))
def qL (img:aj) (x:cy):Option (List bw×ak):=match xV img x.cc with
 |none=>none
 |some pg=>bif decide (pg.length=(x.used.toNat+6)/7+oW x.used.toNat)then(match lL img x.cc x.used.toNat x.g (7*((x.used.toNat+6)/7)) 0 []with
  |none=>none
  |some l=>some (l,pg))else none
def Qf (st:St) (R:Option (List bw×ak)) (o:Out ah×St):Prop:=∃s',aB st s'/\match R with
 |none=>o=(.val [.s 0 none 0,.s 0 none 0,.b false],s')
 |some (l,pg)=>∃p q,o=(.val [.s 3 p l.length,.s 1 q pg.length,.b true],s')/\Sl s' p (bT l)/\Sl s' q (ints pg)
theorem Ztg {a:Nat} (h:a<=1792):oW a<=17:=by
 grind[oW]
theorem ZqE (n:Nat) (img:aj) (x:cy) (pc:ai) (st:St) (hl:img.length<1000000) (hx:uJ x) (hn:4000<=n):
  Ok (Qf st (qL img x)) (run Bd n 243 [.t img,.a (dj x pc)] st):=by
 obtain _|n:=n;omega;rw[Ze,h.afn];unfold RA LS pL aA cP cw qJ jg lY eI sq Li zJ rX Lb iw
 try dsimp only
 rw[bR];rw[dT];unfold dj;simp only[av,aX,aq,ZM];have⟨g1,g2,g3,g4,_,_⟩:=Z4 hx.g;have uj:=hx.u0;have vD:=hx.u1;have⟨u,hu⟩: ∃u:Nat,x.used=(u:Int):=⟨x.used.toNat,by omega⟩;have Yo:x.used.toNat=u:=by omega
 have AM:u<=1792:=by omega
 have⟨R,hR⟩: ∃R,qL img x=R:=⟨_,rfl⟩;rw[hR,hu];have bad: ∀s',aB st s'->R=none->Ok (Qf st R) ((bZ st.length [.s 0 none 0,.s 0 none 0,.b false]:M ah) s'):=λs' hp hn=>by
  rw[hn,Zp];exact .mk ⟨_,Zr hp,rfl⟩
 unfold qL at hR;rw[Yo]at hR;refine Ok.call (Zqp n img x.cc st hl (by omega)) ?_;rintro o ⟨s1,aH,ho⟩;have lv: ∀t,Ok (λo=>o=(.val [.i (((u+6)/7:Nat):Int)],t)) (run Bd n 266 [.i (u:Int)] t):=λt=>Zjt n u (by omega) t
 cases hP:xV img x.cc with
 |none=>
  rw[hP]at ho hR;simp only at ho;subst ho;refine⟨_,s1,rfl,?_⟩;rw[Zg 1 0 none _ (.inr rfl),au,aq];rw[Za,bn,ae];simp only[au,aq];rw[ae];exact bad s1 aH hR.symm
 |some pg=>
  rw[hP]at ho hR;obtain⟨q,rfl,hq⟩:=ho;simp only at hR;refine⟨_,s1,rfl,?_⟩;rw[aX,au,aq];rw[Za,bu,af];obtain⟨_,e1,rfl⟩:=lv s1;rw[v8 e1];rw[av,aq];obtain⟨_,e2,rfl⟩:=Zr1 n u (by omega) s1 (by omega);rw[v8 e2];simp only[av,au,aq];have hfn:=Ztg AM;rw[Zc (x:=(((u+6)/7:Nat):Int)+(oW u:Int))];have Xh:((pg.length:Int)==(((u+6)/7:Nat):Int)+(oW u:Int))=decide (pg.length=(u+6)/7+oW u):=by
   have:=nl pg.length ((u+6)/7+oW u) ((((u+6)/7:Nat):Int)+(oW u:Int));exact this
  rw[Xh];cases hc:decide (pg.length=(u+6)/7+oW u)with
  |false=>
   rw[hc,af]at hR;rw[bn,ae];grind
  |true=>
  rw[hc,ae]at hR;rw[bu,af];refine Ok.join λaI jV=>?_
  have⟨m,hm⟩: ∃m,7*((u+6)/7)=m:=⟨_,rfl⟩;rw[hm]at hR;refine Zi _ (λc y t=>∃(i z:Nat) (pl:ai) (l:List bw),y=[.s z pl l.length,.i (i:Int)]/\(z=3\/pl=none)/\i<=m/\m-i<=c/\bm st t pl (bT l)/\l.length<=i/\lL img x.cc u x.g m 0 []=lL img x.cc u x.g (m-i) i l/\Sl t q (ints pg)/\(∀b∈aP pl,s1.length<=b)/\s1.length<=t.length) ?_ m n _ _ ⟨0,0,none,[],rfl,.inr rfl,cz _,by omega,.nil aH,aO _,rfl,hq,λb hb=>(by cases hb),aO _⟩ (by omega);have AK:=hq.pE;rintro c y t ⟨i,z,pl,l,rfl,hz,hi,Og,gq,gp,aQ,Yd,lP,cg⟩ rec aN;rw[Zg 3 z pl _ hz,av,aq];obtain⟨_,e3,rfl⟩:=lv t;rw[Zk e3];rw[av,aq];rw[Zc (x:=7*(((u+6)/7:Nat):Int)),show 7*(((u+6)/7:Nat):Int)=(m:Int) by omega];by_cases aw:i<m
  .rw[ax (show(i:Int)<(m:Int) by omega),ae]
   have⟨r,hr⟩: ∃r,m-i=r+1:=⟨m-i-1,by omega⟩;rw[hr]at aQ;have ij:m-(i+1)=r:=by omega
   refine Ok.call (ZrT n img x.cc i t hl (by omega) (by omega)) ?_;rintro _ ⟨t1,rfl,jA⟩;have G5:=gq.mono jA;refine⟨_,t1,rfl,?_⟩;rw[dT];unfold eL;simp only[au,av,aq];have fail:lL img x.cc u x.g (r+1) i l=none->Ok (Qf st R) ((bZ st.length [.s 0 none 0,.s 0 none 0,.b false]:M ah) t1):=λhf=>by
    refine bad t1 G5.1 ?_;rw[aQ,hf]at hR;exact hR.symm
   rw[Za];cases hF:mh img x.cc i with
   |none=>
    rw[show(!(none:Option bw).isSome)=true from rfl,ae];simp only[au,aq];rw[Za,ae];simp only[au,aq];rw[ae];exact fail (by unfold lL;rw[hF])
   |some s=>
    have eu:lL img x.cc u x.g (r+1) i l=bif decide (u<=i)then(bif og s then lL img x.cc u x.g r (i+1) l else none)else(bif decide (s.gen<1)||decide (s.gen>x.g)then none else lL img x.cc u x.g r (i+1) (l++[s])):=by
     conv=>lhs;unfold lL
     rw[hF]
    rw[show(!(some s).isSome)=false from rfl,af,show(some s).getD gT=s from rfl];have Kq:((s.live==false)&&((s.gen==0)&&((s.block==0)&&true)))=og s:=rfl;rw[Kq,Za];by_cases hiu:u<=i
    .rw[ax hiu,ae]at eu
     rw[ax (show(i:Int)>=(u:Int) by omega),ae];simp only[au,aq];rw[Za];cases wW:og s with
     |false=>
      rw[wW,af]at eu;rw[bn,ae];simp only[au,aq];rw[ae];exact fail eu
     |true=>
      rw[wW,ae]at eu;rw[bu,af,Za,aF (show ¬(i:Int)<(u:Int) by omega),af];simp only[au,aq];rw[af,Za,af];simp only[aX,aq];rw[Zc];exact aN (m-(i+1)) _ _ (by omega) ⟨i+1,3,pl,l,rfl,.inl rfl,by omega,aO _,G5,by omega,by rw[aQ,eu,ij],Yd.mono jA,lP,by have:=jA.len;omega⟩
    .rw[aF hiu,af]at eu
     rw[aF (show ¬(i:Int)>=(u:Int) by omega),af];simp only[au,aq];rw[Za,af,Za,ax (show(i:Int)<(u:Int) by omega),ae,Za];by_cases oq:s.gen<1
     .rw[ax oq,Bool.true_or,ae]at eu
      rw[ax oq,ae];simp only[au,aq];rw[ae];exact fail eu
     .rw[aF oq,vR]at eu
      rw[aF oq,af];simp only[au,aq];by_cases p8:s.gen>x.g
      .rw[ax p8,ae]at eu
       rw[ax p8,ae];exact fail eu
      .rw[aF p8,af]at eu
       rw[aF p8,af,Za,ae];have Ey:([.b s.live,.i s.gen,.i s.block]:ah)=eL s:=rfl;rw[Ey];have ig:aB t1 (t1++[some ⟨false,eL s⟩]):= .new _ _;rw[Zz,Z8 (f:=false) (all:=eL s) (by simp) (by show 0+3<=3;omega),dK,dG (show(eL s).length<=3 from aO _)];have⟨p6,u6,mq,rh,yp,tZ⟩:=(G5.mono ig).tN (β:=ah) (sz:=3) (n:=l.length) (m:=1) (lim:=2932031007402) (ds:=eL s) (by omega) (ZB l) rfl (by omega);rw[tZ];simp only[aX,aq];rw[Zc];have hlen:=(jA.trans ig).len;refine aN (m-(i+1)) _ _ (by omega) ⟨i+1,3,p6,l++[s],by rw[bB,iK];rfl,.inl rfl,by omega,aO _,?_,by rw[bB,iK];omega,by rw[aQ,eu,ij],?_,λb hb=>?_,by have:=rh.1;omega⟩
       .rw[Iw]
        have:bT [s]=eL s:=by unfold bT;simp
        rw[this];exact mq
       .exact(Yd.mono (jA.trans ig)).fx rh (Aa λb hb c9=>by have:=AK b hb;have:=lP b c9;omega)
       grind
  .rw[aF (show ¬(i:Int)<(m:Int) by omega),af,jV]
   rw[show m-i=0 by omega]at aQ;rw[aQ]at hR;simp only[aX,aq,Zp];refine .mk ⟨_,Zr gq.1,?_⟩;rw[<-hR];exact⟨pl,q,rfl,gq.sl.dQ _,Yd.dQ _⟩
def mR (l:List bw) (u g:Int):Nat->Int->ak->Option (ak)
 |0,_,_=>none
 |f+1,k,out=>bif k==0 then some out else(bif decide (k>u)then none else(match l[(k-1).toNat]? with
  |none=>none
  |some s=>bif s.live then none else(bif decide (s.gen>=g)then none else(bif decide (k-1∈out)then none else mR l u g f s.block (out++[k-1])))))
def sY (g:Int) (out:ak) (i:Nat) (s:bw):Bool:=bif s.live then true else(bif decide (s.gen<g)then decide ((i:Int)∈out)else(bif s.gen==g then s.block==0 else true))
def sf (g:Int) (out:ak):Nat->List bw->Bool
 |_,[]=>true
 |i,s::r=>bif sY g out i s then sf g out (i+1) r else false
def wD (l:List bw) (x:cy):Option (ak):=match mR l x.used x.g (l.length+2) x.free []with
 |none=>none
 |some out=>bif sf x.g out 0 l then some out else none
def Dg (st:St) (R:Option (ak)) (o:Out ah×St):Prop:=∃s',aB st s'/\match R with
 |none=>o=(.val [.s 0 none 0,.b false],s')
 |some l=>∃z p,o=(.val [.s z p l.length,.b true],s')/\(z=1\/p=none)/\Sl s' p (ints l)
theorem Ib {x:bw} (h:l[j]? =some x) (k:Nat) (hk:k<3:=by omega):(bT l)[j*3+k]? =(eL x)[k]? :=by
 have:=Uv h;grind
theorem Zr5 (n:Nat) (l:List bw) (z:Nat) (p:ai) (x:cy) (pc:ai) (st:St) (hz:z=3\/p=none) (hs:Sl st p (bT l)) (gp:(l.length:Int)=x.used) (rk:l.length<=1792) (hr: ∀s∈l,s.live=false->0<=s.block/\s.block<=5000) (hf:0<=x.free/\x.free<=5000) (hn:4000<=n):
  Ok (Dg st (wD l x)) (run Bd n 244 [.s z p l.length,.a (dj x pc)] st):=by
 obtain _|n:=n;omega;rw[Ze,h.afo];unfold SC xD fB Q_ cN N_ qK aA Zm bq kd uG Li Lb dY aZ iw
 try dsimp only
 rw[Zg 3 z p _ hz];rw[dT];unfold dj;simp only[av,aX,aq,ZM];have⟨R,hR⟩: ∃R,wD l x=R:=⟨_,rfl⟩;rw[hR];have bad: ∀s',aB st s'->R=none->Ok (Dg st R) ((bZ st.length [.s 0 none 0,.b false]:M ah) s'):=λs' hp hn=>by
  rw[hn,Zp];exact .mk ⟨_,Zr hp,rfl⟩
 unfold wD at hR;have EL: ∀(t:St) (j:Nat) (s:bw),Sl t p (bT l)->l[j]? =some s->∃i o,p=some (i,o)/\(∀K:DV->M ah,bD i (j*3+o) K t=K (.b s.live) t)/\(∀K:DV->M ah,bD i (j*3+o+1) K t=K (.i s.gen) t)/\∀K:DV->M ah,bD i (j*3+o+2) K t=K (.i s.block) t:=λt j s ht hj=>by
  have uc:=(ef.1 hj).1;obtain⟨i,o,rfl⟩:=ht.cH (by rw[ZB];omega);refine⟨i,o,rfl,λK=>?_,λK=>?_,λK=>?_⟩
  .have:=ht.get (β:=ah) (by rw[Ib hj 0];rfl) K
   exact this
  .have:=ht.get (β:=ah) (by rw[Ib hj 1];rfl) K
   rw[show j*3+o+1=j*3+1+o by omega];exact this
  .have:=ht.get (β:=ah) (by rw[Ib hj 2];rfl) K
   rw[show j*3+o+2=j*3+2+o by omega];exact this
 refine Ok.join λaz nB=>?_
 refine Zi _ (λc y t=>∃(k:Int) (f z1:Nat) (po:ai) (out:ak),y=[.s z1 po out.length,.i k]/\(z1=1\/po=none)/\(0<=k/\k<=5000)/\out.length+f=l.length+1/\f<=c/\bm st t po (ints out)/\out.Nodup/\(∀j∈out,0<=j/\j<(l.length:Int))/\mR l x.used x.g (l.length+2) x.free []=mR l x.used x.g (f+1) k out/\Sl t p (bT l)) ?_ (l.length+1) n _ _ ⟨x.free,l.length+1,0,none,[],rfl,.inr rfl,hf,by simp,aO _,.nil (.refl _),.nil,λj hj=>(by cases hj),rfl,hs⟩ (by omega);rintro c y t ⟨k,f,z1,po,out,rfl,kQ,hk,ep,Om,gq,jo,gM,aQ,cg⟩ rec aN;rw[Zg 1 z1 po _ kQ,av,aq];have jU:(ints out).length=out.length*1:=by rw[Zy,cR]
 have fail: ∀u,aB st u->mR l x.used x.g (f+1) k out=none->Ok (Dg st R) ((bZ st.length [.s 0 none 0,.b false]:M ah) u):=λu hu hf=>by
  refine bad u hu ?_;rw[aQ,hf]at hR;exact hR.symm
 by_cases lO:k=0
 .have ahh:mR l x.used x.g (f+1) k out=some out:=by unfold mR;rw[lO];rfl
  rw[aQ,ahh]at hR;simp only at hR;rw[lO,show(!((0:Int)==0))=false from rfl,af,nB];simp only[aX,aq];refine Ok.join λaI jV=>?_
  refine Zi _ (λc y u=>∃i:Nat,y=[.i (i:Int)]/\i<=l.length/\l.length-i<=c/\u=t/\sf x.g out 0 l=sf x.g out i (l.drop i)) ?_ l.length n _ _ ⟨0,rfl,cz _,by omega,rfl,rfl⟩ (by omega);rintro c2 y2 u ⟨i,rfl,hi,kJ,rfl,vA⟩ dw j4;rw[av,aq];by_cases aw:i<l.length
  .have da:l[i]? =some l[i]:=cq aw
   have fW:l.drop i=l[i]::l.drop (i+1):=iV aw;generalize l[i]=s at da fW;rw[fW]at vA;have G9:sf x.g out 0 l=bif sY x.g out i s then sf x.g out (i+1) (l.drop (i+1))else false:=vA;obtain⟨pi,K1,rfl,EK,ld1,YG⟩:=EL u i s cg da;have An:sY x.g out i s=true->Ok (Dg st R) (dw [.i (ar ((i:Int)+1))] u):=λhb=>by
    rw[hb,ae]at G9;rw[Zc];exact j4 (l.length-(i+1)) _ _ (by omega) ⟨i+1,rfl,by omega,aO _,rfl,G9⟩
   have Lg:sY x.g out i s=false->Ok (Dg st R) ((bZ st.length [.s 0 none 0,.b false]:M ah) u):=λhb=>by
    rw[hb,af]at G9;rw[G9]at hR;exact bad u gq.1 hR.symm
   rw[ax (by omega),ae,bd,Zb (Zj aw)];rw[bp];rw[EK];rw[tq];rw[Za];cases eN:s.live with
   |true=>
    have hb:sY x.g out i s=true:=by unfold sY;rw[eN];rfl
    rw[bu,af];simp only[au,aq];rw[Za,af];simp only[au,aq];rw[Za,af,bd,Zb (Zj aw),EK];rw[tq];rw[Za,eN,bu,af];simp only[au,aq];rw[Za,af];simp only[au,aq];rw[af];exact An hb
   |false=>
    have hb:sY x.g out i s=(bif decide (s.gen<x.g)then decide ((i:Int)∈out)else(bif s.gen==x.g then s.block==0 else true)):=by unfold sY;rw[eN];rfl
    rw[bn,ae,bd,Zb (Zj aw),ld1];simp only[bg,au,aq];rw[Za];have second:decide (s.gen<x.g)=false\/decide ((i:Int)∈out)=true->∀ck:ah->M ah,(∀b,ck [.b b] u=(bif b then(bZ st.length [.s 0 none 0,.b false]:M ah)else dw [.i (ar ((i:Int)+1))]) u)->
      Ok (Dg st R) ((bif s.gen==x.g then ck [.b (!(s.block==0))]else ck [.b false]) u):=λmV ck Cx=>by
     cases ua:(s.gen==x.g)with
     |true=>
      have akn:=eq_of_beq ua;rw[ae,Cx];have c9:sY x.g out i s=(s.block==0):=by
       rw[hb,aF (by omega),af,ua,ae]
      cases jl:(s.block==0)with
      |true=>rw[bu,af];exact An (by rw[c9,jl])
      |false=>rw[bn,ae];exact Lg (by rw[c9,jl])
     |false=>
      rw[af,Cx,af];refine An ?_;rw[hb,ua,af];rcases mV with h1|h1
      .rw[h1];rfl
      .rw[h1];cases decide (s.gen<x.g)<;>rfl
    have acN:decide (s.gen<x.g)=false\/decide ((i:Int)∈out)=true->Ok (Dg st R) ((bH (some (pi,K1)) λi2 o1=>aC (aR (i:Int) l.length)<|bD i2 (i*3+o1) λd1=>tM d1 λx1=>
      cK (λaac=>gC aac λb4 aad=>aL aad<|cK (λajB=>gC ajB λb5 ajC=>aL ajC<|
       (bif b5 then(bZ st.length [.s 0 none 0,.b false]:M ah)else dw [.i (ar ((i:Int)+1))])) λgN=>
      bif b4 then bH (some (pi,K1)) λi3 o2=>aC (aR (i:Int) l.length)<|bD i3 (i*3+o2+2) λd2=>cY .i64 d2 λx2=>gN [.b (!(x2==0))]
      else gN [.b false]) λdp=>
      bif !x1 then bH (some (pi,K1)) λi4 o3=>aC (aR (i:Int) l.length)<|bD i4 (i*3+o3+1) λd3=>cY .i64 d3 λx3=>dp [.b (x3==x.g)]
      else dp [.b false]) u):=λmV=>by
     rw[bd,Zb (Zj aw),EK];rw[tq];rw[Za,eN,bn,ae,bd,Zb (Zj aw),ld1];simp only[bg,au,aq];refine Ok.join λgN ahB=>?_
     have:=second mV gN (λb=>by rw[ahB];simp only[au,aq]);cases ua:(s.gen==x.g)with
     |true=>
      rw[ua,ae]at this;rw[ae,bd,Zb (Zj aw),YG];rw[bg];exact this
     |false=>
      rw[ua,af]at this;rw[af];exact this
    cases hg:decide (s.gen<x.g)with
    |true=>
     rw[ae];refine Ok.call (Bu n 1 out (i:Int) po u (.inl rfl) gq.sl) ?_;rintro _ rfl;refine⟨_,u,rfl,?_⟩;simp only[au,aq];rw[Za];cases ho:decide ((i:Int)∈out)with
     |true=>
      rw[bu,af];exact acN (.inr ho)
     |false=>
      rw[bn,ae];simp only[au,aq];rw[ae];exact Lg (by rw[hb,hg,ae,ho])
    |false=>
     rw[af];simp only[au,aq];rw[Za,af];exact acN (.inl hg)
  .rw[aF (by omega),af,jV]
   rw[lW (by omega)]at vA;rw[vA,show sf x.g out i []=true from rfl,ae]at hR;simp only[aq,Zp];refine .mk ⟨_,Zr gq.1,?_⟩;rw[<-hR];exact⟨1,po,rfl,.inl rfl,gq.sl.dQ _⟩
 .have eu:mR l x.used x.g (f+1) k out=(bif decide (k>x.used)then none else(match l[(k-1).toNat]? with
    |none=>none
    |some s=>bif s.live then none else(bif decide (s.gen>=x.g)then none else(bif decide (k-1∈out)then none else mR l x.used x.g f s.block (out++[k-1]))))):=by
   conv=>lhs;unfold mR
   rw[eG.2 lO,af]
  rw[eG.2 lO,bn,ae,Za];by_cases JR:k>x.used
  .rw[ax JR,ae]at eu
   rw[ax JR,ae];simp only[au,aq];rw[Za,ae];simp only[au,aq];rw[Za,ae];simp only[au,aq];rw[ae];exact fail t gq.1 eu
  .rw[aF JR,af]at eu
   have⟨j,hj⟩: ∃j:Nat,k-1=(j:Int):=⟨(k-1).toNat,by omega⟩;have uc:j<l.length:=by omega
   have da:l[j]? =some l[j]:=cq uc;have kO:l[j]∈l:=kA uc;generalize l[j]=s at da kO;rw[hj,bp,da]at eu;simp only at eu;obtain⟨pi,K1,rfl,EK,ld1,YG⟩:=EL t j s cg da;rw[aF JR,af,bd,Zc (x:=k-1),hj,Zb (Zj uc)];rw[bp];rw[EK];simp only[tq,au,aq];rw[Za];cases eN:s.live with
   |true=>
    rw[eN,ae]at eu;rw[ae];simp only[au,aq];rw[Za,ae];simp only[au,aq];rw[ae];exact fail t gq.1 eu
   |false=>
    rw[eN,af]at eu;rw[af,bd,Zb (Zj uc),ld1];simp only[bg,au,aq];rw[Za];cases hg:decide (s.gen>=x.g)with
    |true=>
     rw[hg,ae]at eu;rw[ae];simp only[au,aq];rw[ae];exact fail t gq.1 eu
    |false=>
     rw[hg,af]at eu;rw[af];refine Ok.call (Bu n 1 out (j:Int) po t (.inl rfl) gq.sl) ?_;rintro _ rfl;refine⟨_,t,rfl,?_⟩;simp only[au,aq];cases ho:decide ((j:Int)∈out)with
     |true=>
      rw[ho,ae]at eu;rw[ae];exact fail t gq.1 eu
     |false=>
      rw[ho,af]at eu;have cA:(j:Int)∉out:=Fl ho;have abV:(out++[(j:Int)]).Nodup:=rR.2 ⟨jo,zA.2 ⟨by simp,.nil⟩,λa ha b hb e=>cA (by rw[<-cB.1 hb,<-e];exact ha)⟩;have abN: ∀a∈out++[(j:Int)],0<=a/\a<(l.length:Int):=λa ha=>by
       rcases gx.1 ha with ha|ha
       .exact gM a ha
       .rw[cB.1 ha];omega
      have G4:=Pw l.length _ abV abN;rw[bB,iK]at G4;obtain⟨f,rfl⟩: ∃f',f=f'+1:=⟨f-1,by omega⟩;rw[af];have ig:aB t (t++[some ⟨false,[.i (j:Int)]⟩]):= .new _ _;rw[Zz,Z8 (f:=false) (all:=[.i (j:Int)]) (by simp) (by simp),dK,dG (by simp)];have⟨p6,u6,mq,rh,yp,tZ⟩:=(gq.mono ig).tN (β:=ah) (sz:=1) (n:=out.length) (m:=1) (lim:=8796093022208) (ds:=[.i (j:Int)]) (by omega) jU rfl (by omega);rw[tZ];have acf:Sl u6 (some (pi,K1)) (bT l):=by
       refine(hs.mono (mq.1))
      have⟨pi2,po2,e,_,_,aja⟩:=EL u6 j s acf da;cases e;rw[bd,Zb (Zj uc),aja];simp only[bg];refine aN f _ _ (by omega) ⟨s.block,f,1,p6,out++[(j:Int)],by rw[bB,iK],.inl rfl,hr s kO eN,by rw[bB,iK];omega,aO _,by rw[MB];exact mq,abV,abN,by rw[aQ,eu],acf⟩
def yJ (m:Int) (l:ak) (a:Int):ak:=if 0<=a/\a<m/\a∉l then l.filter (λx=>decide (x<a))++a::l.filter (λx=>decide (a<x))else l
theorem Nf {l:ak} {a:Int} (h:kC l):kC (yJ m l a)/\∀k,k∈yJ m l a↔k∈l\/(k=a/\0<=a/\a<m):=by
 unfold yJ;by_cases hc:0<=a/\a<m/\a∉l
 .rw[bE hc]
  refine⟨?_,λk=>?_⟩
  .unfold kC
   rw[Lr];refine⟨List.Pairwise.sublist List.filter_sublist h,List.pairwise_cons.2 ⟨λx hx=>?_,List.Pairwise.sublist List.filter_sublist h⟩,λx hx y hy=>?_⟩
   .grind
   grind
  grind
 grind
def pW (m:Int):ak->ak->Option (ak)
 |[],r=>some r
 |k::a,r=>bif decide (k<2)then none else(bif decide (k∈r)then none else pW m a (yJ m r k))
def jS (u:Int) (l:List bw) (e:bh) (k:Int):Bool:=bif decide (e.slot>=u)then false else(match l[e.slot.toNat]? with
 |none=>false
 |some s=>(s.live==true)&&((s.gen==e.gen)&&((s.block==k)&&true)))
def ji (u:Int) (l:List bw):List bh->ak->Bool
 |e::es,k::ks=>bif jS u l e k then ji u l es ks else false
 |_,_=>true
def iE (im:aj) (u:Int) (l:List bw):List ZH->List dP->ak->Int->Option (List dP×ak×Int)
 |[],hs,all,lv=>some (hs,all,lv)
 |q::r,hs,all,lv=>match uX im q.dz with
  |none=>none
  |some (es,ns)=>bif ji u l es ns then iE im u l r (hs++[⟨q.name,jM es⟩]) (all++ns) (lv-es.length)else none
def oz (l:List bw):Nat:=(l.filter (·.live)).length
def uW (img:aj) (x:cy):Option (fJ×ak):=bif !ZU x then none else(bif decide (x.blocks>((img.length/64:Nat):Int))then none else
 (match qL (img.take (64*x.blocks.toNat)) x with
 |none=>none
 |some (l,pg)=>match wD l x with
  |none=>none
  |some fr=>match vI (img.take (64*x.blocks.toNat)) x.dir with
   |none=>none
   |some (qs,bs)=>match iE (img.take (64*x.blocks.toNat)) x.used l qs [] (pg++bs) (oz l)with
    |none=>none
    |some (hs,all,lv)=>match pW x.blocks all [0,1]with
     |none=>none
     |some r=>bif lv==0 then(bif decide (r.length=all.length+2)then some (⟨x.blocks,x.de,x.g,hs,l.map (·.gen),fr⟩,r)else none)else none))
theorem Znq {k:Int} {m:jL} (h:uo img k=some m):oS m=true/\m.kids.length<=12:=by
 unfold uo at h;cases hl:jt img k with
 |none=>rw[hl]at h;cases h
 |some l=>rw[hl]at h;exact MR h
theorem Tn {img:aj} : ∀(j:Nat) (ks:ak) (e:bh) (es:List bh) (bs:ak),jN img j ks e=some (es,bs)->∀a∈es,0<=a.slot/\a.slot<1792
 |0,_,_,_,_,h,a,ha=>by cases h;cases ha
 |j+1,ks,e,es,bs,h,a,ha=>by
  unfold jN at h;cases h1:jN img j ks e with
  |none=>rw[h1]at h;cases h
  |some q=>
   have⟨ye,xW⟩:=q;have i1:=Tn j ks e ye xW h1;rw[h1]at h;simp only at h;cases h2:uo img (ks.getD j 0)with
   |none=>rw[h2]at h;cases h
   |some m=>
    rw[h2]at h;simp only at h;cases h3:decide (m.kids.length=j)with
    |false=>rw[h3]at h;cases h
    |true=>
     rw[h3,ae]at h;cases h4:jN img j m.kids m.bJ with
     |none=>rw[h4]at h;cases h
     |some q=>
      have⟨Al,wu⟩:=q;have i2:=Tn j m.kids m.bJ Al wu h4;rw[h4]at h;simp only at h;cases h5:fu e m.bJ with
      |false=>rw[h5]at h;cases h
      |true=>
       rw[h5,ae]at h;cases h;rcases gx.1 ha with ha|ha
       .exact i1 a ha
       .rcases eF.1 ha with rfl|ha
        .exact Ij (Znq h2).1
        .exact i2 a ha
theorem Zvd {k:Int} {bs:ak} (h:lD img d k=some (es,bs)): ∀a∈es,0<=a.slot/\a.slot<1792:=by
 unfold lD at h;cases h2:uo img k with
 |none=>rw[h2]at h;cases h
 |some m=>
  rw[h2]at h;simp only at h;cases h3:decide (m.kids.length=d)with
  |false=>rw[h3]at h;cases h
  |true=>
   rw[h3,ae]at h;cases h4:jN img d m.kids m.bJ with
   |none=>rw[h4]at h;cases h
   |some q=>
    have⟨Al,wu⟩:=q;rw[h4]at h;cases h;intro a ha;rcases eF.1 ha with rfl|ha
    .exact Ij (Znq h2).1
    .exact Tn d m.kids m.bJ Al wu h4 a ha
theorem TU {img:aj} : ∀(r:ak) (i:Nat) (es:List bh) (bs:ak) (hY:List bh) (gP:ak),lM img i r es bs=some (hY,gP)->i+r.length<=12->(∀a∈es,0<=a.slot/\a.slot<1792)->es.length+1<=2^i->bs.length=es.length->(∀a∈hY,0<=a.slot/\a.slot<1792)/\hY.length+1<=2^(i+r.length)/\gP.length=hY.length
 |[],i,es,bs,hY,gP,h,_,h1,h2,h3=>by cases h;exact⟨h1,h2,h3⟩
 |k::r,i,es,bs,hY,gP,h,hi,h1,h2,h3=>by
  rw[cO]at hi⊢;unfold lM at h;cases hk:(k==0)with
  |true=>
   rw[hk,ae]at h;have:=TU r (i+1) es bs hY gP h (by omega) h1 (by omega) h3;rwa [show i+1+r.length=i+(r.length+1) by omega]at this
  |false=>
   rw[hk,af]at h;cases ht:lD img i k with
   |none=>rw[ht]at h;cases h
   |some q=>
    have⟨fe,ga⟩:=q;rw[ht]at h;have⟨l1,l2⟩:=Dx ht;have dA:=Zvd ht;have:=TU r (i+1) (es++fe) (bs++ga) hY gP h (by omega) (by grind) (by rw[bB];omega) (by rw[bB,bB];omega);rwa [show i+1+r.length=i+(r.length+1) by omega]at this
theorem ZvZ {bs:ak} (h:uX img r=some (es,bs)) (hr:r.length=12):(∀a∈es,0<=a.slot/\a.slot<1792)/\es.length<4096/\bs.length=es.length:=by
 have:=TU r 0 [] [] es bs h (by omega) (λa ha=>by cases ha) (by simp) rfl;rw[hr]at this;grind
theorem Zt8 {s:bw} (h:mh img top i=some s):ZK s=true:=by
 unfold mh at h;cases h1:gL img top with
 |none=>rw[h1]at h;cases h
 |some f=>
  rw[h1]at h;simp only at h;cases h2:gL img (f.getD (i/112) 0)with
  |none=>rw[h2]at h;cases h
  |some g=>
   rw[h2]at h;simp only at h;cases h3:kt img (g.getD (i/7%16) 0)with
   |none=>rw[h3]at h;cases h
   |some l=>
    rw[h3]at h;simp only at h;have hm:=uw h;unfold kt at h3;by_cases hk:g.getD (i/7%16) 0=0
    .rw[bE hk]at h3
     cases h3;rw[List.eq_of_mem_replicate hm];rfl
    .rw[bj hk]at h3
     cases h4:jt img (g.getD (i/7%16) 0)with
     |none=>rw[h4]at h3;cases h3
     |some b=>
      rw[h4]at h3;grind[ZL]
theorem TE {img:aj} {top:Int} {u:Nat} {g:Int} : ∀(c i:Nat) (l l':List bw),lL img top u g c i l=some l'->(∀s∈l,ZK s=true)->l.length=min i u->(∀s∈l',ZK s=true)/\l'.length=min (i+c) u
 |0,i,l,l',h,h1,h2=>by cases h;exact⟨h1,h2⟩
 |c+1,i,l,l',h,h1,h2=>by
  unfold lL at h;cases hf:mh img top i with
  |none=>rw[hf]at h;cases h
  |some s=>
   rw[hf]at h;simp only at h;by_cases hui:u<=i
   .rw[ax hui,ae]at h
    cases hz:og s with
    |false=>rw[hz]at h;cases h
    |true=>
     rw[hz,ae]at h;have:=TE c (i+1) l l' h h1 (by omega);rwa [show i+1+c=i+(c+1) by omega]at this
   .rw[aF hui,af]at h
    cases hz:(decide (s.gen<1)||decide (s.gen>g))with
    |true=>rw[hz]at h;cases h
    |false=>
     rw[hz,af]at h;have:=TE c (i+1) (l++[s]) l' h (λa ha=>by
      rcases gx.1 ha with ha|ha
      .exact h1 a ha
      .rw[cB.1 ha];exact Zt8 hf) (by rw[bB,iK];omega)
     rwa [show i+1+c=i+(c+1) by omega]at this
theorem UP {x:cy} (hx:uJ x) (h:qL img x=some (l,pg)):(∀s∈l,ZK s=true)/\(l.length:Int)=x.used/\l.length<=1792/\pg.length<=273:=by
 have⟨g1,g2,g3,g4,_,_⟩:=Z4 hx.g;have uj:=hx.u0;have vD:=hx.u1;unfold qL at h;cases hp:xV img x.cc with
 |none=>rw[hp]at h;cases h
 |some p=>
  rw[hp]at h;simp only at h;cases hd:decide (p.length=(x.used.toNat+6)/7+oW x.used.toNat)with
  |false=>rw[hd]at h;cases h
  |true=>
   rw[hd,ae]at h;cases hs:lL img x.cc x.used.toNat x.g (7*((x.used.toNat+6)/7)) 0 []with
   |none=>rw[hs]at h;cases h
   |some l'=>
    rw[hs]at h;cases h;have⟨a1,a2⟩:=TE _ _ _ _ hs (λs hs=>by cases hs) (by simp);have hfn:=Ztg (a:=x.used.toNat) (by omega);grind
theorem Zks {s:bw} (h:ZK s=true) (hl:s.live=false):0<=s.block/\s.block<=5000:=by
 grind[ZK,ll]
set_option maxHeartbeats 2000000
open Go.Gv
def zz (a b c:Nat):ah:=[.i 0,.i 0,.i 0,.s a none 0,.s b none 0,.s c none 0]
def uL (st:St) (R:Option (fJ×ak)) (o:Out ah×St):Prop:=∃s',aB st s'/\match R with
 |none=>o=(.val [.a (zz 0 0 0),.s 0 none 0,.b false],s')
 |some (y,r)=>∃z1 p1 p2 p3 q,o=(.val [.a (dE y z1 p1 1 p2 1 p3),.s 1 q r.length,.b true],s')/\(z1=2\/p1=none)/\lh s' y p1 p2 p3/\Sl s' q (ints r)
theorem ZwL {l:List ZH} (h:HN l) {x:ZH} (hj:l[j]? =some x):((ur l).drop (j*14+2)).take 12=ints x.dz:=by
 have hx:=h x (uw hj);refine tk λk=>?_
 rw[xo];split
 .rename_i hk
  rw[Bg,show j*14+2+k=j*14+(2+k) by omega,Nn h hj (2+k) (by omega)];show(DV.t x.name::DV.i x.mask::ints x.dz)[2+k]? =_;rw[show 2+k=k+1+1 by omega,qw,qw]
 .rw[HD (by rw[Zy,hx.1];omega)]
theorem Zya {l:List bh} (h:l[j]? =some e):((bY l).drop (j*4)).take 2=[.i e.slot,.i e.gen]:=by
 have:=DC h;have h2:=congrArg (List.take 2) this;rw[Db]at h2;exact h2
theorem Zwe (u:Int) (l:List bw) (h1:es[k]? =some e) (h2:ns[k]? =some w):ji u l (es.drop k) (ns.drop k)=bif jS u l e w then ji u l (es.drop (k+1)) (ns.drop (k+1))else false:=by
 have⟨a1,a2⟩:=ef.1 h1;have⟨b1,b2⟩:=ef.1 h2;rw[iV a1,iV b1,a2,b2];rfl
theorem Zq4 (k:Nat) {s:St} : ∀ {ds:ah} {xs:List dP},kB s ds xs->kB (Z1 k s) ds xs
 |_,[],h=>h
 |_,_::_,⟨z,p,t,hz,h1,h2,h3⟩=>⟨z,p,t,hz,h1,h2.dQ k,Zq4 k h3⟩
theorem Zvg (l:List bw) (s:bw):oz (l++[s])=oz l+(bif s.live then 1 else 0):=by
 grind[oz]
theorem Zsq (l:List bw):oz l<=l.length:=List.length_filter_le _ _
theorem Zqo (n:Nat) (img:aj) (x:cy) (pc:ai) (st:St) (hl:img.length<1000000) (hc:Sl st pc (ints x.aJ)) (cL:x.aJ.length<1000) (hn:80000<=n):
  Ok (uL st (uW img x)) (run Bd n 211 [.t img,.a (dj x pc)] st):=by
 obtain _|n:=n;omega;rw[Ze,h.aeU];unfold RC LS bq aA I4 pL Zx cP Qs bV oe Zn iL Zhd N_ FZ xy iX qJ Zm qK oL ZX Bt eI gJ Lb Z7 dY rY Bp Bs Li
 try dsimp only
 rw[bR];rw[dT];have Ex:=λs1 (hp:aB st s1)=>Q7 n x pc s1 (hc.mono hp) cL
 have pA:=λim (hi:im.length<1000000) (hx:uJ x) s1=>ZqE n im x pc s1 hi hx (by omega)
 have dS:=λ(l:List bw) z p s1 hz hs gp rk hr hf=>Zr5 n l z p x pc s1 hz hs gp rk hr hf (by omega)
 unfold dj at Ex pA dS⊢;simp only[av,aX,aq,ZM];have⟨R,hR⟩: ∃R,uW img x=R:=⟨_,rfl⟩;rw[hR];have bad: ∀s',aB st s'->R=none->Ok (uL st R) ((bZ st.length [.a [.i 0,.i 0,.i 0,.s 0 none 0,.s 0 none 0,.s 0 none 0],.s 0 none 0,.b false]:M ah) s'):=λs' hp hn=>by
  rw[hn,Zp];exact .mk ⟨_,Zr hp,rfl⟩
 unfold uW at hR;refine Ok.cv (Ex st (.refl st)) λs1 aH=>?_
 simp only[au,aq];rw[Za];cases hS:ZU x with
 |false=>
  rw[hS,bn,ae]at hR;rw[bn,ae];simp only[au,aq];rw[ae];exact bad s1 aH hR.symm
 |true=>
 have hx:=(BC x).1 hS;have⟨g1,g2,g3,g4,g5,g6⟩:=Z4 hx.g;have vo:=hx.f0;have Co:=hx.f1;rw[hS,bu,af]at hR;have ediv:ar ((img.length:Int).tdiv 64)=((img.length/64:Nat):Int):=by
  rw[show(img.length:Int).tdiv 64=((img.length/64:Nat):Int)from rfl];exact Zc
 rw[bu,af,ediv];simp only[au,aq];by_cases jl:x.blocks>((img.length/64:Nat):Int)
 .rw[ax jl,ae]at hR
  rw[ax jl,ae];grind
 rw[aF jl,af]at hR;rw[aF jl,af];have⟨m,hm⟩: ∃m:Nat,x.blocks=(m:Int):=by grind
 have jX:x.blocks.toNat=m:=by omega
 have aiU:ar (64*x.blocks)=((64*m:Nat):Int):=by rw[hm,Zc];omega
 rw[jX]at hR;rw[aiU,Zb (by rw[aY,br,br];omega)];simp only[bp];have⟨im,Eh⟩: ∃im,img.take (64*m)=im:=⟨_,rfl⟩;have XG:im.length<1000000:=by rw[<-Eh,cX];omega
 rw[Eh]at hR⊢;refine Ok.call (pA im XG hx s1) ?_;rintro o ⟨s2,aU,ho⟩;have iP:=aH.trans aU;cases GA:qL im x with
 |none=>
  rw[GA]at ho hR;simp only at ho;subst ho;refine⟨_,s2,rfl,?_⟩;simp only[Zg 3 0 none _ (.inr rfl),Zg 1 0 none _ (.inr rfl),au,aq];rw[bn,ae];exact bad s2 iP hR.symm
 |some q=>
 have⟨l,pg⟩:=q;rw[GA]at ho hR;obtain⟨Y3,px2,rfl,AO,ED⟩:=ho;simp only at hR;have⟨l1,l2,l3,l4⟩:=UP hx GA;refine⟨_,s2,rfl,?_⟩;simp only[aX,au,aq];rw[bu,af];refine Ok.call (dS l 3 Y3 s2 (.inl rfl) AO l2 l3 (λs hs eN=>Zks (l1 s hs) eN) (by omega)) ?_;rintro o ⟨s3,cu,ho⟩;have ug:=iP.trans cu;have lQ:=λs3=>ZrM n im x.dir s3 XG (by omega)
 cases hFr:wD l x with
 |none=>
  rw[hFr]at ho hR;simp only at ho;subst ho;refine⟨_,s3,rfl,?_⟩;simp only[Zg 1 0 none _ (.inr rfl),au,aq];refine Ok.call (lQ s3) ?_;rintro o ⟨s4,fy,ho⟩;cases Gx:vI im x.dir with
  |none=>
   rw[Gx]at ho;simp only at ho;subst ho;refine⟨_,s4,rfl,?_⟩;simp only[Zg 14 0 none _ (.inr rfl),Zg 1 0 none _ (.inr rfl),au,aq];rw[Za,bn,ae];simp only[au,aq];rw[ae];exact bad s4 (ug.trans fy) hR.symm
  |some q=>
   have⟨qs,bs⟩:=q;rw[Gx]at ho;obtain⟨z,p,z2,q,rfl,hz,gS,_⟩:=ho;refine⟨_,s4,rfl,?_⟩;simp only[Zg 14 z p _ hz,Zg 1 z2 q _ gS,au,aq];rw[Za,bn,ae];simp only[au,aq];rw[ae];exact bad s4 (ug.trans fy) hR.symm
 |some fr=>
 rw[hFr]at ho hR;obtain⟨zf,pf,rfl,hzf,mY⟩:=ho;simp only at hR;refine⟨_,s3,rfl,?_⟩;simp only[Zg 1 zf pf _ hzf,au,aq];refine Ok.call (lQ s3) ?_;rintro o ⟨s4,fy,ho⟩;have Et:=ug.trans fy;cases Gx:vI im x.dir with
 |none=>
  rw[Gx]at ho hR;simp only at ho;subst ho;refine⟨_,s4,rfl,?_⟩;simp only[Zg 14 0 none _ (.inr rfl),Zg 1 0 none _ (.inr rfl),au,aq];rw[Za,bu,af];simp only[au,aq];rw[bn,ae];exact bad s4 Et hR.symm
 |some q=>
 have⟨qs,bs⟩:=q;rw[Gx]at ho hR;obtain⟨z6,px6,z7,px7,rfl,hz6,hz7,hq6,hq7,vi,akC,akf⟩:=ho;simp only at hR;refine⟨_,s4,rfl,?_⟩;simp only[Zg 14 z6 px6 _ hz6,Zg 1 z7 px7 _ hz7,au,aq];rw[Za,bu,af];simp only[au,aq];rw[af];have hL:=AO.mono (cu.trans fy);have hPg:=ED.mono (cu.trans fy);have hFs:=mY.mono fy;have NL: ∀s',aB s4 s'->R=none->Ok (uL st R) ((bZ st.length [.a [.i 0,.i 0,.i 0,.s 0 none 0,.s 0 none 0,.s 0 none 0],.s 0 none 0,.b false]:M ah) s'):=λs' hp hn=>bad s' (Et.trans hp) hn
 rw[Zz];have⟨s5,hs5⟩: ∃s5,s4++[some (⟨false,[]⟩:bO)]=s5:=⟨_,rfl⟩;have jZ:aB s4 s5:=by rw[<-hs5];exact .new _ _
 rw[hs5];have ah8:bm s4 s5 (some (s4.length,0)) []:=⟨jZ,(by grind)⟩;have r2: ∀K:ah->M ah,dy px2 (pg.length*1) K s5=K (ints pg) s5:=λK=>by
  have:=iR (hPg.mono jZ) K;rwa [Zy,<-cR pg.length]at this
 rw[r2];have⟨pa1,s6,mq,rh,yp,tZ⟩:=ah8.tN (β:=ah) (sz:=1) (n:=0) (m:=pg.length) (lim:=8796093022208) (ds:=ints pg) (by omega) rfl (by rw[Zy,cR]) (by omega);rw[tZ];rw[jH]at mq;have r7: ∀K:ah->M ah,dy px7 (bs.length*1) K s6=K (ints bs) s6:=λK=>by
  have:=iR (hq7.mono mq.1) K;rwa [Zy,<-cR bs.length]at this
 rw[r7];have⟨pa,s7,J9,hf7,hb7,he7⟩:=mq.tN (β:=ah) (sz:=1) (n:=0+pg.length) (m:=bs.length) (lim:=8796093022208) (ds:=ints bs) (by omega) (by rw[Zy];omega) (by rw[Zy,cR]) (by omega);rw[he7];rw[<-M7]at J9;have Aw:(pg++bs).length=0+pg.length+bs.length:=by rw[bB];omega
 rw[<-Aw];have⟨BX,abl⟩: ∃BX,pg++bs=BX:=⟨_,rfl⟩;have akd:BX.length<=300:=by rw[<-abl,bB];omega
 rw[abl]at J9 hR⊢;refine Ok.join λaW kL=>?_
 have EL: ∀(t:St) (j:Nat) (s:bw),Sl t Y3 (bT l)->l[j]? =some s->∃i o,Y3=some (i,o)/\(∀K:DV->M ah,bD i (j*3+o) K t=K (.b s.live) t)/\(∀K:DV->M ah,bD i (j*3+o+1) K t=K (.i s.gen) t)/\∀K:ah->M ah,bS i (j*3+o) 3 K t=K (eL s) t:=λt j s ht hj=>by
  have uc:=(ef.1 hj).1;obtain⟨i,o,rfl⟩:=ht.cH (by rw[ZB];omega);refine⟨i,o,rfl,λK=>?_,λK=>?_,λK=>?_⟩
  .have:=ht.get (β:=ah) (by rw[Ib hj 0];rfl) K
   exact this
  .have:=ht.get (β:=ah) (by rw[Ib hj 1];rfl) K
   rw[show j*3+o+1=j*3+1+o by omega];exact this
  .rw[ht.yj (k:=j*3) (n:=3) (by rw[ZB];omega),Uv hj]
 refine Zi _ (λc y t=>∃(i z94 PW:Nat) (xd:ai),y=[.a [.i x.blocks,.i x.de,.i x.g,.s z94 none 0,.s PW xd i,.s 1 pf fr.length],.i ((oz (l.take i):Nat):Int),.i (i:Int)]/\(PW=1\/xd=none)/\i<=l.length/\l.length-i<=c/\bm s4 t xd (ints ((l.take i).map (·.gen)))/\bm s4 t pa (ints BX)/\(∀b∈aP xd,b∉aP pa)) ?_ l.length n _ _ ⟨0,0,0,none,by rw[hm];rfl,.inr rfl,cz _,by omega,.nil J9.1,J9,λb hb=>by cases hb⟩ (by omega);rintro c y t ⟨i,z94,PW,xd,rfl,ai3,hi,Og,AJ,mu,Oi⟩ CW ab8;rw[dT];simp only[av,Zg 2 z94 none _ (.inr rfl),Zg 1 PW xd _ ai3,aX,aq];by_cases aw:i<l.length
 .have da:l[i]? =some l[i]:=cq aw
  have fZ:l.take (i+1)=l.take i++[l[i]]:=lX aw;generalize l[i]=s at da fZ;have⟨pi,po,e1,EK,ld1,_⟩:=EL t i s (hL.mono mu.1) da;have jm:(ints ((l.take i).map (·.gen))).length=i*1:=by rw[Zy,lG,cX];omega
  rw[ax (by omega),ae,e1,bd,Zb (Zj aw)];simp only[bp];rw[ld1];simp only[bg];have ig:aB t (t++[some ⟨false,[.i s.gen]⟩]):= .new _ _;rw[Zz,Z8 (f:=false) (all:=[.i s.gen]) (by simp) (by simp),dK,dG (by simp)];have⟨pg6,u6,XV,ahj,ag2,ahg⟩:=(AJ.mono ig).tN (β:=ah) (sz:=1) (n:=i) (m:=1) (lim:=8796093022208) (ds:=[.i s.gen]) (by omega) jm rfl (by omega);rw[ahg];have ahW:bm s4 u6 pa (ints BX):=(mu.mono ig).yi ahj (λb hb c9=>Oi b c9 hb) XV.1;have⟨pi2,po2,e2,ai9,_,_⟩:=EL u6 i s (hL.mono XV.1) da;rw[e1]at e2;cases e2;rw[bd,Zb (Zj aw),ai9];simp only[tq];have GS:=Zsq (l.take i);rw[cX]at GS;have eu: ∀lv:Int,lv=((oz (l.take (i+1)):Nat):Int)->Ok (uL st R) (CW [.a [.i x.blocks,.i x.de,.i x.g,.s 2 none 0,.s 1 pg6 (i+1),.s 1 pf fr.length],.i lv,.i (ar ((i:Int)+1))] u6):=λlv eN=>by
   rw[Zc,eN];have halt:=mu.pE;refine ab8 (l.length-(i+1)) _ _ (by omega) ⟨i+1,2,1,pg6,rfl,.inl rfl,by omega,aO _,?_,ahW,λb hb c9=>?_⟩
   .rw[fZ,fq,show(List.map (·.gen) [s])=[s.gen]from rfl,MB]
    exact XV
   .rcases ag2 b hb with h1|h1
    .exact Oi b h1 c9
    .have:=halt b c9
     have:=ig.len;omega
  have El:oz (l.take (i+1))=oz (l.take i)+(bif s.live then 1 else 0):=by rw[fZ,Zvg]
  rw[Za];cases eN:s.live with
  |true=>
   rw[eN,ae]at El;rw[ae];simp only[av,aq];exact eu _ (by rw[Zc,El];rfl)
  |false=>
   rw[eN,af,gV]at El;rw[af];simp only[av,aq];exact eu _ (by rw[El];rfl)
 rw[aF (by omega),af,kL];rw[dG (by omega)]at AJ⊢;have jU:i=l.length:=by omega
 subst jU;clear kL aW CW ab8;show Ok (uL st R) (ba [DV.a _,DV.i _] _ t);rw[dT];simp only[av,aX,Zg 2 2 none _ (.inr rfl),aq];refine Ok.join λbz Cw=>?_
 have GS:=Zsq l;have⟨gs,yy⟩: ∃gs,l.map (·.gen)=gs:=⟨_,rfl⟩;have ahu:gs.length=l.length:=by rw[<-yy,lG]
 rw[yy]at AJ hR;rw[<-ahu];have ail:aB s4 t:=mu.1;refine Zi _ (λc y u=>∃(i za zb zc zh:Nat) (pa ph:ai) (all:ak) (hs:List dP) (hd:ah) (lv:Int),y=[.a (zz za zb zc),.s 1 pa all.length,.a [.i x.blocks,.i x.de,.i x.g,.s zh ph hs.length,.s 1 xd gs.length,.s 1 pf fr.length],.i lv,.i (i:Int)]/\(zh=2\/ph=none)/\i<=qs.length/\qs.length-i<=c/\bm s4 u pa (ints all)/\bm s4 u ph hd/\hd.length=hs.length*2/\qC u (aP pa++aP ph) hd hs/\bm s4 u xd (ints gs)/\(∀b∈aP pa,b∉aP ph)/\(∀b∈aP xd,b∉aP pa/\b∉aP ph)/\iE im x.used l qs [] BX (oz l)=iE im x.used l (qs.drop i) hs all lv/\hs.length=i/\all.length<=300+4096*i/\(-4096*(i:Int)<=lv/\lv<=1792)) ?_ qs.length n _ _ ⟨0,0,0,0,2,pa,none,BX,[],[],(oz l:Int),rfl,.inr rfl,cz _,by omega,mu,.nil ail,rfl,rfl,AJ,λb hb c9=>(by cases c9),λb hb=>⟨Oi b hb,λc9=>by cases c9⟩,by rw[dK],rfl,by omega,by omega⟩ (by omega);clear Oi mu AJ J9 he7;rintro c2 y2 u ⟨i,za,zb,zc,zh,pa,ph,all,hs,hd,lv,rfl,hzh,hi,Og,mu,XY,ub,hho,AJ,tY,jb,AN,hhi,akc,eN⟩ dw j4;rw[dT];unfold zz;simp only[av,Zg 2 za none _ (.inr rfl),Zg 1 zb none _ (.inr rfl),Zg 1 zc none _ (.inr rfl),aX,aq];rw[dT];simp only[av,Zg 2 zh ph _ hzh,aX,aq];by_cases aw:i<qs.length
 .have da:qs[i]? =some qs[i]:=cq aw
  have fW:qs.drop i=qs[i]::qs.drop (i+1):=iV aw;have OU:=vi _ (kA aw);generalize qs[i]=q at da fW OU;have hQu:=hq6.mono mu.1;obtain⟨i7,o7,rfl⟩:=hQu.cH (by rw[IY vi];omega);rw[fW]at AN;rw[ax (by omega),ae];refine Ok.join λiC ahC=>?_
  rw[bd,Zb (Zj aw)];simp only[bp];rw[show i*14+o7+2=i*14+2+o7 by omega,hQu.yj (k:=i*14+2) (n:=12) (by rw[IY vi];omega),ZwL vi da,bI (by rw[Zy];exact OU.1)];refine Ok.call (Zov n im q.dz u XG OU.1 (by omega)) ?_;rintro o ⟨u1,Kf,ho⟩;have OH:=mu.mono Kf;have eu:iE im x.used l (q::qs.drop (i+1)) hs all lv=(match uX im q.dz with
   |none=>none
   |some (es,ns)=>bif ji x.used l es ns then iE im x.used l (qs.drop (i+1)) (hs++[⟨q.name,jM es⟩]) (all++ns) (lv-es.length)else none):=rfl
  have fail: ∀u',aB s4 u'->iE im x.used l (q::qs.drop (i+1)) hs all lv=none->Ok (uL st R) ((bZ st.length [.a [.i 0,.i 0,.i 0,.s 0 none 0,.s 0 none 0,.s 0 none 0],.s 0 none 0,.b false]:M ah) u'):=λu' hp hf=>NL u' hp (by rw[AN,hf]at hR;exact hR.symm)
  cases WR:uX im q.dz with
  |none=>
   rw[WR]at ho eu;simp only at ho;subst ho;refine⟨_,u1,rfl,?_⟩;simp only[Zg 4 0 none _ (.inr rfl),Zg 1 0 none _ (.inr rfl),au,aq];rw[bn,ae];exact fail u1 OH.1 eu
  |some qq=>
  have⟨es,ns⟩:=qq;rw[WR]at ho eu;obtain⟨p68,p69,rfl,hE,hN,hNn,hEn⟩:=ho;simp only at eu;refine⟨_,u1,rfl,?_⟩;simp only[aX,au,aq];rw[bu,af];have⟨fo1,fo2,fo3⟩:=ZvZ WR OU.1;have hL1:=hL.mono OH.1;refine Ok.join λiD abO=>?_
  refine Zi _ (λc y v=>∃(k za zb zc:Nat),y=[.a (zz za zb zc),.i (k:Int)]/\k<=es.length/\es.length-k<=c/\v=u1/\ji x.used l es ns=ji x.used l (es.drop k) (ns.drop k)) ?_ es.length n _ _ ⟨0,2,1,1,rfl,cz _,by omega,rfl,by rw[dK,dK]⟩ (by omega);rintro c3 y3 v ⟨k,za,zb,zc,rfl,hk,jT,rfl,pj⟩ vJ OW;rw[dT];unfold zz;simp only[av,Zg 2 za none _ (.inr rfl),Zg 1 zb none _ (.inr rfl),Zg 1 zc none _ (.inr rfl),aq];by_cases fY:k<es.length
  .have ua:es[k]? =some es[k]:=cq fY
   have hem:=fo1 _ (kA fY);generalize es[k]=e at ua hem;have ri:ns[k]? =some (ns.getD k 0):=by
    rw[cq (by omega),dW,cq (by omega)];rfl
   have abJ:(ints ns)[k]? =some (.i (ns.getD k 0)):=zO;generalize ns.getD k 0=w at ri abJ;have Ee:=Zwe x.used l ua ri;rw[Ee]at pj;have⟨i10,o10,e68⟩:=hE.cH (by rw[Zt];omega);have⟨i12,o12,e69⟩:=hN.cH (by rw[Zy];omega);rw[e68]at hE;rw[e69]at hN;rw[ax (by omega),ae,e68,bd,Zb (Zj fY)];simp only[bp];rw[hE.yj (k:=k*4) (n:=2) (by rw[Zt];omega),Zya ua];simp only[av,aq];rw[Za];have Lg:jS x.used l e w=false->Ok (uL st R) ((bZ st.length [.a [.i 0,.i 0,.i 0,.s 0 none 0,.s 0 none 0,.s 0 none 0],.s 0 none 0,.b false]:M ah) v):=λhb=>by
    rw[hb,af]at pj;rw[pj,af]at eu;exact fail v OH.1 eu
   by_cases He:e.slot>=x.used
   .rw[ax He,ae]
    simp only[au,aq];rw[ae];exact Lg (by unfold jS;rw[ax He];rfl)
   .have⟨sl,dA⟩: ∃sl:Nat,e.slot=(sl:Int):=⟨e.slot.toNat,by omega⟩
    have aiH:sl<l.length:=by omega
    have XA:l[sl]? =some l[sl]:=cq aiH;generalize l[sl]=s at XA;have⟨pi,po,e1,_,_,ldc⟩:=EL v sl s hL1 XA;have pZ:jS x.used l e w=((s.live==true)&&((s.gen==e.gen)&&((s.block==w)&&true))):=by
     unfold jS;rw[aF He,dA,bp,XA];rfl
    rw[aF He,af,e1,bd,dA,Zb (Zj)];simp only[bp];rw[ldc];unfold eL;simp only[au,av,aq];rw[e69,bd,Zb (Zj (show k<ns.length by omega)),hN.dJ abJ];simp only[bg,au,aq];rw[<-pZ];cases abA:jS x.used l e w with
    |false=>
     rw[bn,ae];exact Lg abA
    |true=>
     rw[abA,ae]at pj;rw[bu,af,Zc];exact OW (es.length-(k+1)) _ _ (by omega) ⟨k+1,2,1,1,rfl,by omega,aO _,rfl,pj⟩
  rw[aF (by omega),af,abO];rw[lW (by omega)]at pj;have ahk:ji x.used l es ns=true:=pj;rw[ahk,ae]at eu;clear OW vJ abO iD pj;show Ok (uL st R) (ba [DV.a _] _ v);rw[dT];simp only[av,aX,aq];have r9: ∀K:ah->M ah,dy p69 (ns.length*1) K v=K (ints ns) v:=λK=>by
   have:=iR hN K;rwa [Zy,<-cR ns.length]at this
  rw[r9];have aid:=mu.pE;have X4:=XY.pE;have ab5:=AJ.pE;have huv:=Kf.len;have⟨KY,u2,du,mW,c9,vl⟩:=OH.tN (β:=ah) (sz:=1) (n:=all.length) (m:=ns.length) (lim:=8796093022208) (ds:=ints ns) (by omega) (by rw[Zy,cR]) (by rw[Zy,cR]) (by omega);rw[vl];have akK:=mW.1;have hQ2:=hq6.mono du.1;have wQ:(ur qs)[i*14]? =some (.t q.name):=by
   have:=Nn vi da 0 (by omega);rw[gV]at this;rw[this];rfl
  rw[bd,Zb (Zj aw)];rw[hQ2.get wQ];simp only[zF];have hE2:Sl u2 p68 (bY es):=hE.fx mW (Aa λb hb c9=>by have:=hEn b hb;have:=aid b c9;omega);refine Ok.NQ (ZoH n es 4 p68 u2 (.inl rfl) hE2 (by omega) (by omega)) ?_;rintro _ ⟨yX,u3,rfl,G6,D8,hSn⟩;refine⟨_,u3,rfl,G6,?_⟩;simp only[aX,aq];have ig:aB u3 (u3++[some ⟨false,ml ⟨q.name,jM es⟩ 4 yX⟩]):= .new _ _;have hhz:([.t q.name,.s 4 yX (jM es).length]:ah)=ml ⟨q.name,jM es⟩ 4 yX:=rfl;rw[hhz,Zz,Z8 (f:=false) (all:=ml ⟨q.name,jM es⟩ 4 yX) (by simp) (by show 0+2<=2;omega),dK,dG (show(ml _ _ _).length<=2 from aO _)];have ab7:aB s4 u2:=du.1;have ahZ:bm s4 (u3++[some ⟨false,ml ⟨q.name,jM es⟩ 4 yX⟩]) ph hd:=(((XY.mono Kf).yi mW (λb hb c9=>tY b c9 hb) ab7).mono G6).mono ig;have ahY:bm s4 (u3++[some ⟨false,ml ⟨q.name,jM es⟩ 4 yX⟩]) xd (ints gs):=(((AJ.mono Kf).yi mW (λb hb c9=>(jb b hb).1 c9) ab7).mono G6).mono ig;have⟨ph5,u5,qc,mX,D9,JJ⟩:=ahZ.tN (β:=ah) (sz:=2) (n:=hs.length) (m:=1) (lim:=1759218604441) (ds:=ml ⟨q.name,jM es⟩ 4 yX) (by omega) ub rfl (by omega);rw[JJ,ahC];have akH:=G6.len;have akI:=ig.len;have ab4:=du.pE;have hSl:=D8.pE;have hFL:Fx (aP pa++aP ph) u u5:=(Fx.pre _ Kf).trans ((mW.mono λb hb=>List.mem_append_left _ hb).trans ((Fx.pre _ (G6.trans ig)).trans (mX.mono λb hb=>Lq _ hb)));have abx: ∀b∈aP KY,b∉aP ph:=λb hb oj=>by
   rcases c9 b hb with h1|h1
   .exact tY b h1 oj
   .have:=X4 b oj;omega
  have ahV:bm s4 u5 KY (ints all++ints ns):=((du.mono G6).mono ig).yi mX abx qc.1;have ahw:=hho.fx (L':=aP KY++aP ph5) hFL λb hb=>by
   rcases gx.1 hb with hb|hb
   .rcases c9 b hb with h1|h1
    .exact .inl (List.mem_append_left _ h1)
    omega
   .rcases D9 b hb with h1|h1
    .exact .inl (Lq _ h1)
    omega
  have Gz:Sl u5 yX (bY (jM es)):=(D8.mono ig).fx mX (Aa λb hb oj=>by have:=hSn b hb;have:=X4 b oj;omega);have ahx:=ahw.push (x:=⟨q.name,jM es⟩) (z:=4) (p:=yX) (.inl rfl) Gz (Aa λb hb oj=>by
   have h1:=hSn b hb;have h2:=hSl b hb;rcases gx.1 oj with oj|oj
   .have:=ab4 b oj;omega
   .rcases D9 b oj with h3|h3
    .have:=X4 b h3;omega
    .omega)
  show Ok (uL st R) (ba [DV.a _,DV.s 1 KY _,DV.a _,DV.i _] _ u5);rw[dT];simp only[av,aX,aq];rw[dT];simp only[av,aX,aq];rw[Zc (x:=lv-(es.length:Int)),Zc];refine j4 (qs.length-(i+1)) _ _ (by omega) ⟨i+1,2,1,1,2,KY,ph5,all++ns,hs++[⟨q.name,jM es⟩],hd++ml ⟨q.name,jM es⟩ 4 yX,lv-es.length,?_,.inl rfl,by omega,aO _,by rw[M7];exact ahV,qc,?_,ahx,ahY.yi mX (λb hb oj=>(jb b hb).2 oj) qc.1,λb hb oj=>?_,λb hb=>⟨λoj=>?_,λoj=>?_⟩,?_,?_,?_,by omega⟩
  .rw[bB,bB,iK]
   rfl
  .rw[bB,bB,iK,ub]
   show _+2=_;omega
  .rcases D9 b oj with h1|h1
   .exact abx b hb h1
   .have:=ab4 b hb;omega
  .rcases c9 b oj with h1|h1
   .exact(jb b hb).1 h1
   .have:=ab5 b hb;omega
  .rcases D9 b oj with h1|h1
   .exact(jb b hb).2 h1
   .have:=ab5 b hb;omega
  .rw[AN,eu]
  .rw[bB,iK,hhi]
  .rw[bB];omega
 rw[aF (by omega),af,Cw];rw[lW (by omega)]at AN;have aiW:iE im x.used l qs [] BX (oz l)=some (hs,all,lv):=AN;rw[aiW]at hR;simp only at hR;clear j4 dw Cw bz AN;show Ok (uL st R) (ba [DV.a _,DV.s 1 pa _,DV.a _,DV.i _] _ u);rw[dT];simp only[av,aX,aq];rw[dT];simp only[av,aX,aq];rw[Zz];have⟨u9,Yn⟩: ∃u9,u++[some (⟨false,[.i 0,.i 1]⟩:bO)]=u9:=⟨_,rfl⟩;have X7:aB u u9:=by rw[<-Yn];exact .new _ _
 have hr9:Sl u9 (some (u.length,0)) (ints [0,1]):=⟨false,[.i 0,.i 1],by rw[<-Yn];simp,by simp[ints],by simp[ints]⟩;rw[Yn];refine Ok.join λck Cx=>?_
 refine Zi _ (λc y v=>∃(k za zb zc zr:Nat) (pr:ai) (r:ak),y=[.a (zz za zb zc),.s zr pr r.length,.i (k:Int)]/\(zr=1\/pr=none)/\k<=all.length/\all.length-k<=c/\aB u9 v/\Sl v pr (ints r)/\kC r/\r.length<=k+2/\pW x.blocks all [0,1]=pW x.blocks (all.drop k) r) ?_ all.length n _ _ ⟨0,2,1,1,1,some (u.length,0),[0,1],rfl,.inl rfl,cz _,by omega,.refl _,hr9,(by unfold kC;simp),aO _,by rw[dK]⟩ (by omega);rintro c4 y4 v ⟨k,za2,zb2,zc2,zr,pr,r,rfl,KF,hk,jT,vz,Kt,Ko,CC,G7⟩ aV ait;rw[dT];unfold zz;simp only[av,Zg 2 za2 none _ (.inr rfl),Zg 1 zb2 none _ (.inr rfl),Zg 1 zc2 none _ (.inr rfl),Zg 1 zr pr _ KF,aq];have Kg:aB s4 v:=mu.1.trans (X7.trans vz);have Ch:=mu.sl.mono (X7.trans vz);by_cases fY:k<all.length
 .have fW:=I5 fY
  have⟨w,hw⟩: ∃w,all.getD k 0=w:=⟨_,rfl⟩;rw[hw]at fW;have ri:(ints all)[k]? =some (.i w):=by rw[<-hw];exact zO fY
  have⟨i3,o3,e3⟩:=Ch.cH (by rw[Zy];omega);rw[e3]at Ch;rw[fW]at G7;have eu:pW x.blocks (w::all.drop (k+1)) r=bif decide (w<2)then none else(bif decide (w∈r)then none else pW x.blocks (all.drop (k+1)) (yJ x.blocks r w)):=rfl;have fail:pW x.blocks (w::all.drop (k+1)) r=none->Ok (uL st R) ((bZ st.length [.a [.i 0,.i 0,.i 0,.s 0 none 0,.s 0 none 0,.s 0 none 0],.s 0 none 0,.b false]:M ah) v):=λhf=>NL v Kg (by rw[G7,hf]at hR;exact hR.symm)
  rw[ax (by omega),ae,e3,bd,Zb (Zj fY)];simp only[bp];rw[Ch.dJ ri];simp only[bg];rw[Za];by_cases fR:w<2
  .rw[ax fR,ae]at eu
   rw[ax fR,ae];simp only[au,aq];rw[ae];exact fail eu
  .rw[aF fR,af]at eu
   rw[aF fR,af,bd,Zb (Zj fY),Ch.dJ ri];simp only[bg];refine Ok.call (Bu n 1 r w pr v (.inl rfl) Kt) ?_;rintro _ rfl;refine⟨_,v,rfl,?_⟩;simp only[au,aq];cases hwr:decide (w∈r)with
   |true=>
    rw[hwr,ae]at eu;rw[ae];exact fail eu
   |false=>
    rw[hwr,af]at eu;rw[af,bd,Zb (Zj fY),Ch.dJ ri];simp only[bg];refine Ok.call (SY n r 1 pr x.blocks w v (.inl rfl) Kt Ko) ?_;rintro _ ⟨p2,r2,v2,rfl,ain,aiB,ij,fw⟩;refine⟨_,v2,rfl,?_⟩;simp only[aX,aq];have⟨c1,c2⟩:=Nf (m:=x.blocks) (a:=w) Ko;have air:r2=yJ x.blocks r w:=FF ij c1 λb=>by rw[fw,c2]
    have ais:r2.length<=(w::r).length:=xL ij.nodup λb hb=>by
     rcases(fw b).1 hb with h1|h1
     .exact zy _ h1
     .rw[h1.1];exact uv
    rw[cO]at ais;rw[Zc];exact ait (all.length-(k+1)) _ _ (by omega) ⟨k+1,2,1,1,1,p2,r2,rfl,.inl rfl,by omega,aO _,vz.trans ain,aiB,ij,by omega,by rw[G7,eu,air]⟩
 rw[aF (by omega),af,Cx];rw[lW (by omega)]at G7;have aiu:pW x.blocks all [0,1]=some r:=G7;rw[aiu]at hR;simp only at hR;show Ok (uL st R) (ba [DV.a _,DV.s 1 pr _] _ v);rw[dT];simp only[av,aX,aq];rw[Za,Zc (x:=(all.length:Int)+2)];have aiw:((r.length:Int)==(all.length:Int)+2)=decide (r.length=all.length+2):=nl r.length (all.length+2) _;cases abR:(lv==0)with
 |false=>
  rw[abR,af]at hR;rw[bn,ae];simp only[au,aq];rw[ae];exact NL v Kg hR.symm
 |true=>
  rw[abR,ae]at hR;rw[bu,af,aiw];simp only[au,aq];cases jz:decide (r.length=all.length+2)with
  |false=>
   rw[jz,af]at hR;rw[bn,ae];exact NL v Kg hR.symm
  |true=>
   rw[jz,ae]at hR;rw[bu,af,Zp];refine .mk ⟨_,Zr (Et.trans Kg),?_⟩;rw[<-hR];have X8:=X7.trans vz;have hhh:=hho.aM.mono X8;refine⟨2,ph,xd,pf,pr,rfl,.inl rfl,⟨⟨hd,(XY.sl.mono X8).dQ _,?_⟩,(AJ.sl.mono X8).dQ _,(hFs.mono Kg).dQ _⟩,Kt.dQ _⟩;exact Zq4 _ hhh
end Go.Gv.F
