/- Numbers and blocks, read (the document's). -/
import Derived.Test.YtegglibipjjblaaGreatDoorGvZMg
set_option linter.all false
namespace Go.Gv.F
open Go.Gv
variable {Y:Type}
variable {Bd:Zg} [h:HA Bd]
theorem Zpw (n:Nat) (s:aj) (st:St) (hl:s.length<=8) (hn:s.length+3<=n):Ok (λo=>o=(.val [.w (ef s:Int)],st)) (run Bd n 310 [.str s] st):=by
 obtain _|n:=n;omega;rw[Ze,h.ahH];unfold RP mF Cj Aw lX ZF
 try dsimp only
 rw[bZ,ao];refine Ok.join λax sC=>?_
 have key: ∀i,i<=s.length->ef (s.drop i)<256^(s.length-i):=λi hi=>by
  have:=GD (s.drop i);rwa [dY]at this
 refine Zj _ (λq y t=>∃i:Nat,y=[.w ((ef (s.drop i):Nat):Int),.i ((i:Int)-1)]/\i<=s.length/\i<=q/\t=st) ?_ s.length n _ _ ⟨s.length,by rw[List.drop_length,Zb];rfl,aJ _,aJ _,rfl⟩ AC;rintro q y t ⟨i,rfl,hi,hq,rfl⟩ rec aN;simp only[au,ao];by_cases h0:i=0
 .subst h0
  rw[aU,sC];simp only[au,ao,Zd];exact .mk rfl
 .rw[aR,Za,aR]
  obtain⟨j,rfl⟩: ∃j,i=j+1:=⟨i-1,AC⟩;have hj:j<s.length:=AC
  rw[show((j+1:Nat):Int)-1=(j:Int) by omega,Zc (Zi hj)];simp only[au,ao];have hd:s.drop j=s[j]::s.drop (j+1):=iR hj;have av:=key (j+1) AC;have hp:256^(s.length-(j+1))<=256^7:=pB EQ AC;have h7:(256:Nat)^7=72057594037927936:=EQ
  have hb:ZX s (j:Int)=(s[j].toNat:Int):=by
   unfold ZX;rw[bn,cz,cc hj];rfl
  have hsj:=s[j].toNat_lt;rw[hb,IntWalk.u64_in (((ef (s.drop (j+1)):Nat):Int)*256) AC,IntWalk.u64_in (s[j].toNat:Int) AC,IntWalk.u64_in _ AC,Zb];refine aN j _ _ AC ⟨j,?_,AC,aJ _,rfl⟩;rw[hd];show _=[DV.int .u64 ((s[j].toNat+256*ef (s.drop (j+1)):Nat):Int),_];rw[show((ef (s.drop (j+1)):Nat):Int)*256+(s[j].toNat:Int)=((s[j].toNat+256*ef (s.drop (j+1)):Nat):Int) by omega]
theorem BT (n:Nat) (s:aj) (st:St) (hl:s.length<=8) (hn:12<=n:=by omega):run Bd n 292 [.str s] st=some (.val [.i (aq (ef s:Int))],st):=by
 obtain _|n:=n;omega;rw[Ze,h.ahu];unfold TG mF vW Ls Li
 try dsimp only
 rw[bZ,ao];obtain⟨o,e,rfl⟩:=Zpw n s st hl AC;rw[Zk e];rfl
variable {m top w:Int} {es:List aP} {l:List aX} {d i j k k' lim n t t' v:Nat} {s s' s0:St} {e:aP} {cs ds:ah} {b' img:aj} {ns pg r:ak} {T:al}
theorem D6 (b:aj) {a:Nat} :aq ((ef ((b.take (a+k)).drop a):Nat):Int)=bL b a k:=by
 simp[bL,rd,BC]
theorem D9 {b:aj} {a:Nat} (hk:k<=8:=by omega):((b.take (a+k)).drop a).length<=8:=by
 rw[dY,cB];omega
theorem ZwD {l:aj} (lI:l.length=64) (h4:l.getD 4 0≠0):(gK ((l.getD 4 0).toNat:Nat) ((l.getD 5 0).toNat:Nat) (l.drop 8)==l)=nU l:=by
 rw[nL,Ac];constructor
 .intro e
  have hk:0<(l.getD 4 0).toNat:=by
   rcases BF (l.getD 4 0).toNat with h|h
   .exact absurd (DC.1 Fd) h4
   .exact h
  have:=yx hk (UInt8.toNat_lt _) (UInt8.toNat_lt (l.getD 5 0)) (b:=l.drop 8) (by rw[dY];omega);rw[e]at this;grind[eK]
 .intro hr
  have:eK l=some ((l.getD 4 0).toNat,(l.getD 5 0).toNat,l.drop 8):=by
   grind[eK]
  exact(vT this).1.symm
def Bn (l:aj):ah:=match eK l with
 |none=>[.i 0,.i 0,.str [],.bool false]
 |some (k,t,b)=>[.i (k:Int),.i (t:Int),.str b,.bool true]
theorem Io (n:Nat) (p:ai) (l:aj) (st:St) (hs:dD st p l) (hl:l.length=64) (hn:300<=n:=by omega):
  Ok (λo=>∃s',o=(.val (Bn l),s')/\aB st s') (run Bd n 291 [.slice 1 p 64] st):=by
 obtain _|n:=n;omega;rw[Ze,h.aht];unfold Tc ck az mN lV Lb qW
 try dsimp only
 rw[aZ,ao];obtain⟨i,o,rfl⟩:=hs.cS AC;have g4:l[4]? =some (l.getD 4 0):=by rw[cz,cc AC];rfl
 have g5:l[5]? =some (l.getD 5 0):=by rw[cz,cc AC];rfl
 have hw: ∀c:UInt8,aq (c.toNat:Int)=(c.toNat:Int):=λc=>by
  have:=c.toNat_lt;exact Zb
 have ld4: ∀(K:DV->M ah) (t:St),dD t (some (i,o)) l->bH i (4+o) K t=K (.u (l.getD 4 0).toNat) t:=λK t ht=>ht.get g4 K
 have ld5: ∀(K:DV->M ah) (t:St),dD t (some (i,o)) l->bH i (5+o) K t=K (.u (l.getD 5 0).toNat) t:=λK t ht=>ht.get g5 K
 have r8: ∀(K:ah->M ah) (t:St),dD t (some (i,o)) l->dV (cY true (some (i,o)) 8) (64-8) K t=K (bT (l.drop 8)) t:=λK t ht=>by
  have h8:=ht.cY (k:=8) AC;have:=j9 (show Sl _ _ (bT (l.drop 8))from h8) K;rwa [Zw,dY,hl]at this
 have rl: ∀(K:ah->M ah) (t:St),dD t (some (i,o)) l->dV (some (i,o)) 64 K t=K (bT l) t:=λK t ht=>by
  have:=j9 (show Sl _ _ (bT l)from ht) K;rwa [Zw,hl]at this
 have bad:nU l=false->∀s',aB st s'->Ok (λo=>∃s',o=(.val (Bn l),s')/\aB st s') ((aw [.i 0,.i 0,.str (bs []),.bool false]:M ah) s'):=λhr s' hp=>by
  rw[Zd];refine .mk ⟨s',?_,hp⟩;grind[Bn,eK]
 rw[Za,pL FS,bh,Zc FS,ld4 _ _ hs];simp only[bg,ar,ao];rw[Za];by_cases h4:l.getD 4 0=0
 .rw[h4,kT FS]
  simp only[ar,ao];rw[ae];refine bad ?_ st (.refl _);grind[nU]
 .have h40:((((l.getD 4 0).toNat:Nat):Int)==0)=false:=dM.2 λe=>h4 (DC.1 Fd)
  rw[h40,af,bh,Zc FS,ld4 _ _ hs,bg,bh,Zc FS,ld5 _ _ hs,bg,Zc (aQ AC),r8 _ _ hs,<-qi,uJ,hw,hw];refine Ok.cx (BV n _ _ (l.drop 8) (by rw[dY];omega) st (by rw[dY];omega)) λs1 aH=>?_
  have fW:=hs.mono aH;rw[bZ,ao,rl _ _ fW,<-qi,uJ,ZwD hl h4];simp only[ar,ao];cases hr:nU l
  .rw[bD,ae];exact bad hr s1 aH
  .rw[bI,af,bh,Zc (show aO 4 64=true from rfl),ld4 _ _ fW,bg,bh,Zc (show aO 5 64=true from rfl),ld5 _ _ fW,bg,Zc (aQ AC),r8 _ _ fW,<-qi,uJ,hw,hw,Zd];refine .mk ⟨s1,?_,aH⟩;unfold Bn eK;rw[hr];rfl
theorem Jh {b:aj} (mV:0<k) (hk:k<256) (ht:t<256) (ai4:0<k') (oK:k'<256) (xR:t'<256) (h:b.length<=56) (h':b'.length<=56:=by omega):gK k t b=gK k' t' b'↔k=k'/\t=t'/\ez b 56=ez b' 56:=by
 constructor
 .intro e
  have h1:=yx mV hk ht h;rw[e,yx ai4 oK xR h']at h1;grind
 .grind[gK,qL]
theorem NB {b:aj} (h:b.length=56):ez b 56=b:=by
 simp_all[ez,ZR]
theorem Ns {b:aj} (h:b.length=56) (hn:n<=56:=by omega):ez (b.take n) 56=b↔ZB (b.drop n)=true:=by
 have hl:(b.take n).length=n:=by rw[cB];omega
 have hd:(b.drop n).length=56-n:=by rw[dY];omega
 unfold ez;rw[hl];constructor
 .intro e
  have:b.drop n=ZR (56-n):=by
   have h1:=mD n b;rw[<-e]at h1;grind
  rw[this];exact DP _
 .intro e
  have:=U1 e;rw[hd]at this;rw[<-this,mD]
theorem ZAN (h:v<18446744073709551616):bM (aq (v:Int))=v:=by
 grind[bM,aq,IntKind.wrap_i64]
theorem Cc {b:aj} {a:Nat} (hk:k<=8:=by omega) (h:a+k<=b.length:=by omega):bB (bM (bL b a k)) k=(b.drop a).take k:=by
 unfold bL;have av:=Ql b a k;have hp:256^k<=256^8:=pB EQ hk;have h8:(256:Nat)^8=18446744073709551616:=EQ
 rw[ZAN AC];unfold rd;have hl:((b.drop a).take k).length=k:=by rw[cB,dY];omega
 have:=Gq ((b.drop a).take k);rwa [hl]at this
theorem Zrg (b:aj) (a m k:Nat):(b.drop a).take m++(b.drop (a+m)).take k=(b.drop a).take (m+k):=by
 rw[uH,kd]
theorem M0 {b:aj} {a:Nat} : ∀(n:Nat),a+2*n<=b.length->dJ ((List.range n).map λj=>bL b (a+2*j) 2)=(b.drop a).take (2*n)
 |0,_=>rfl
 |n+1,h=>by
  have e:dJ ((List.range (n+1)).map λj=>bL b (a+2*j) 2)=dJ ((List.range n).map λj=>bL b (a+2*j) 2)++bB (bM (bL b (a+2*n) 2)) 2:=by
   simp[dJ,tl,eV,Fu]
  rw[e,M0 n AC,Cc,Zrg,show 2*n+2=2*(n+1) by omega]
theorem ZsC {b:aj} (h:2*n<=b.length:=by omega):dJ (dO b n)=b.take (2*n):=by
 have:=M0 (b:=b) (a:=0) n AC;rw[dF]at this;rw[<-this];simp[dO]
theorem Zpc {b:aj} (t:Nat): ∀(n:Nat),8*n<=b.length->Z3 (ZQ b t n)=b.take (8*n)
 |0,_=>rfl
 |n+1,h=>by
  have app: ∀(l:List aX) (x:aX),Z3 (l++[x])=Z3 l++(bB (bM x.gen) 4++bB (bM x.block) 4):=λl x=>by
   induction l with
   |nil=>simp[Z3]
   |cons y l ih=>simp[Z3,ih]
  rw[It,app,Zpc t n AC];show _++(bB (bM (bL b (8*n) 4)) 4++bB (bM (bL b (8*n+4) 4)) 4)=_;rw[Cc,Cc,Zrg b (8*n) 4 4,show 8*(n+1)=8*n+8 by omega];grind
theorem ZsF: ∀(l:List aX) (x:aX) (k:Nat),gy k (l++[x])=gy k l+(bif x.live then 2^(k+l.length)else 0)
 |[],x,k=>by simp[gy]
 |y::l,x,k=>by
  rw[oo];unfold gy;rw[ZsF l x (k+1),cQ,show k+1+l.length=k+(l.length+1) by omega];omega
theorem Zt5 (b:aj) (t:Nat): ∀n,gy 0 (ZQ b t n)=t%2^n
 |0=>by simp[ZQ,gy,Nat.mod_one]
 |n+1=>by
  rw[It,ZsF,Zt5 b t n,BZ,fq];show t%2^n+(bif eN t n then 2^n else 0)=_;have h:=Nat.mod_pow_succ (b:=2) (k:=n) (x:=t);rw[h];grind[eN]
theorem Zxo {b:aj} (h:b.length=56) (ht:t<=12):uk (mc b t)=b.take (24+2*t):=by
 unfold uk mc pK;simp only;rw[Cc,Cc,Cc,Cc,M0 t AC,dF];have e1:b.take 8++(b.drop 8).take 8=b.take 16:=by rw[<-uH]
 have e2:b.take 16++(b.drop 16).take 4=b.take 20:=by rw[<-uH]
 have e3:b.take 20++(b.drop 20).take 4=b.take 24:=by rw[<-uH]
 rw[e1,e2,e3,<-uH]
theorem Zwc {b:aj} (h:b.length=56) (ht:t<=28):bB (bM ((Z1 b t).mask:Int)) 4++dJ (Z1 b t).cF++(Z1 b t).name=b.take (28+t):=by
 unfold Z1 ZV;simp only;have av:=Ql b 0 4;have e0:((rd b 0 4:Nat):Int)=bL b 0 4:=by
  unfold bL;exact(Zb AC (by have:(256:Nat)^4=4294967296:=EQ;omega)).symm
 rw[e0,Cc,M0 12 AC,dF];have e1:b.take 4++(b.drop 4).take (2*12)=b.take 28:=by rw[<-uH]
 rw[e1,<-uH]
theorem ZlP (k:Int):iU k=kR k 2 3071:=by
 simp[iU,kR]
theorem Zwj (x:aX):oW x=ZK x:=by
 unfold oW ZK;rw[ZlP];cases x.live
 .rw[af,af];grind[kR]
 .rw[ae,ae];grind[kR]
theorem Zw6 {l b:aj} (ho:eK l=some (3,t,b)):ZY l=(bif (match mM (dO b 16)with|none=>false|some c=>c==l)then some (dO b 16)else none):=by
 have⟨h1,h2,h3,h4⟩:=vT ho;have hr:Am (dO b 16)=(dO b 16).all λk=>k==0||iU k:=by
  simp[Am,ZlP]
 unfold ZY mM;rw[ho,<-hr];simp only;cases hrf:Am (dO b 16)
 .rw[af,af];simp
 .rw[ae,ae];have key:(gK 3 0 (dJ (dO b 16))==l)=(decide (t=0)&&ZB (b.drop 32)):=by
   rw[ZsC,nL,Ac,aS,bq]
   conv=>lhs;rhs;rw[h1]
   have:=Jh (k:=3) (t:=0) (k':=3) (t':=t) (b:=b.take (2*16)) (b':=b) AC AC AC AC AC h4 (by rw[cB];omega);rw[show((3:Nat):Int)=3 from rfl,show((0:Nat):Int)=0 from rfl]at this;rw[show((3:Nat):Int)=3 from rfl,this,NB h2,Ns h2];grind
  grind
theorem Zwf {l b:aj} (ho:eK l=some (2,t,b)):ZI l=(bif (match qo (ZQ b t 7)with|none=>false|some c=>c==l)then some (ZQ b t 7)else none):=by
 have⟨h1,h2,h3,h4⟩:=vT ho;have hr:(ZQ b t 7).all ZK=(ZQ b t 7).all oW:=by
  grind[Zwj]
 unfold ZI qo;rw[ho];simp only;rw[hr];cases hrf:(ZQ b t 7).all oW
 .rw[af,af];simp
 .rw[ae,ae];have key:(gK 2 ((gy 0 (ZQ b t 7):Nat):Int) (Z3 (ZQ b t 7))==l)=decide (t<128):=by
   rw[Zpc t 7 AC,Zt5,nL,Ac,bq]
   conv=>lhs;rhs;rw[h1]
   have:=Jh (k:=2) (t:=t%2^7) (k':=2) (t':=t) (b:=b.take (8*7)) (b':=b) AC AC AC AC AC h4 (by rw[cB];omega);rw[show((2:Nat):Int)=2 from rfl]at this;rw[show((2:Nat):Int)=2 from rfl,this,dG (AC:b.length<=8*7)];simp
  grind
theorem Zwy {l b:aj} (ho:eK l=some (1,t,b)) (ht:t<=12):iy l=(bif mb (mc b t)&&oU (mc b t)==l then some (mc b t)else none):=by
 have⟨h1,h2,h3,h4⟩:=vT ho;have key:(oU (mc b t)==l)=ZB (b.drop (24+2*t)):=by
  have fM:(mc b t).kids.length=t:=DQ b t;unfold oU;rw[Zxo h2 ht,fM,nL,Ac]
  conv=>lhs;rhs;rw[h1]
  have:=Jh (k:=1) (t:=t) (k':=1) (t':=t) (b:=b.take (24+2*t)) (b':=b) AC AC h4 AC AC h4 (by rw[cB];omega);rw[show((1:Nat):Int)=1 from rfl]at this;rw[show((1:Nat):Int)=1 from rfl,this,NB h2,Ns h2];simp
 grind[iy]
theorem ZuC {l b:aj} (ho:eK l=some (5,t,b)) (ht:t<=28):ZH l=(bif mL (Z1 b t)&&pZ (Z1 b t)==l then some (Z1 b t)else none):=by
 have⟨h1,h2,h3,h4⟩:=vT ho;have Be:(Z1 b t).name.length=t:=by
  show((b.drop 28).take t).length=t;rw[cB,dY];omega
 have key:(pZ (Z1 b t)==l)=ZB (b.drop (28+t)):=by
  unfold pZ;rw[Zwc h2 ht,Be,nL,Ac]
  conv=>lhs;rhs;rw[h1]
  have:=Jh (k:=5) (t:=t) (k':=5) (t':=t) (b:=b.take (28+t)) (b':=b) AC AC h4 AC AC h4 (by rw[cB];omega);rw[show((5:Nat):Int)=5 from rfl]at this;rw[show((5:Nat):Int)=5 from rfl,this,NB h2,Ns h2];simp
 unfold ZH;rw[ho,key];simp only;cases hr:mL (Z1 b t)
 .rw[af,gF,af];simp
 .have h24:t<=24:=by
   have h5:=hr;unfold mL at h5;rw[aS]at h5;have:=ZoF h5.1;omega
  rw[aQ h24];simp
theorem ZwX (l:ak):Al l=(decide (1<=l.length)&&(decide (l.length<=16)&&rj l l.length)):=by
 have key: ∀n,n<=l.length->((List.range n).all λi=>rh (l.getD i 0)&& !decide (l.getD i 0∈l.take i))=rj l n:=by
  intro n;induction n with
  |zero=>intro _;rfl
  |succ n ih=>
   intro hn;rw[tl,uC,ih AC];unfold rj;have hb:rh (l.getD n 0)=iU (l.getD n 0):=by
    grind[rh,iU]
   rw[<-hb];grind[rj]
 grind[Al]
theorem Zx9 {l b:aj} (ho:eK l=some (6,t,b)) (ht:t<=16):kl l=(bif (match sf (dO b t)with|none=>false|some c=>c==l)then some (dO b t)else none):=by
 have⟨h1,h2,h3,h4⟩:=vT ho;have key:(gK 6 ((dO b t).length:Int) (dJ (dO b t))==l)=ZB (b.drop (2*t)):=by
  rw[ZsC,pG,nL,Ac]
  conv=>lhs;rhs;rw[h1]
  have:=Jh (k:=6) (t:=t) (k':=6) (t':=t) (b:=b.take (2*t)) (b':=b) AC AC h4 AC AC h4 (by rw[cB];omega);rw[show((6:Nat):Int)=6 from rfl]at this;rw[show((6:Nat):Int)=6 from rfl,this,NB h2,Ns h2];simp
 unfold kl sf;rw[ho];simp only;rw[ZwX,aQ ht];grind
theorem ZoL (n:Nat) (p:ai) (l:aj) (st:St) (hs:dD st p l) (hl:l.length=64) (hn:500<=n):
  Ok (λo=>∃s',aB st s'/\match ZY l with
   |none=>o=(.val [.agg (ints (List.replicate 16 0)),.bool false],s')
   |some x=>o=(.val [.agg (ints x),.bool true],s')/\x.length=16) (run Bd n 308 [.slice 1 p 64] st):=by
 obtain _|n:=n;omega;rw[Ze,h.ahF];unfold Sd ck yI az vL cT cK bj Lb Ls Li
 try dsimp only
 rw[aZ,ao];refine Ok.cv (Io n p l st hs hl) λs1 aH=>?_
 have fW:=hs.mono aH;have⟨Q,hQ⟩: ∃Q:Out ah×St->Prop,(λo=>∃s',aB st s'/\match ZY l with
   |none=>o=(.val [.agg (ints (List.replicate 16 0)),.bool false],s')
   |some x=>o=(.val [.agg (ints x),.bool true],s')/\x.length=16)=Q:=⟨_,rfl⟩
 have bad: ∀s',aB st s'->ZY l=none->Ok Q ((aw [.agg (List.replicate 16 (.i 0)),.bool false]:M ah) s'):=λs' hp hg=>by
  rw[Zd,<-hQ];refine .mk ⟨s',hp,?_⟩;rw[hg];rfl
 rw[hQ];unfold Bn;cases ho:eK l
 .simp only[au,bZ,ar,ao];rw[Za,bD,ae];simp only[ar,ao];rw[ae];exact bad s1 aH (by unfold ZY;rw[ho])
 .rename_i q;have⟨k,t,b⟩:=q;have⟨_,hb,_,_⟩:=vT ho;simp only[au,bZ,ar,ao];rw[Za,bI,af,pJ k 3 3 rfl];simp only[ar,ao];by_cases hk:k=3
  .subst hk
   rw[aQ rfl,bI,af];refine Ok.join λaG mU=>?_
   refine Zj _ (λq y s=>∃i:Nat,y=[.agg (ints (dO b i)++ints (List.replicate (16-i) 0)),.i i]/\i<=16/\16-i<=q/\s=s1) ?_ 16 n _ _ ⟨0,rfl,AC,AC,rfl⟩ AC;rintro q _ s ⟨i,rfl,hi,hq,rfl⟩ rec aN;have hlen:(ints (dO b i)++ints (List.replicate (16-i) 0)).length=16:=by
    simp[ints,pG];omega
   rw[cX,au,ao,bN hlen];by_cases av:i<16
   .have cL:aq ((i:Int)+1)=((i+1:Nat):Int):=Zb
    have kY:aq (2*(i:Int))=((2*i:Nat):Int):=Zb;have lN:aq (((2*i:Nat):Int)+2)=((2*i+2:Nat):Int):=Zb;simp only[cL,kY,lN,bn,cR];rw[aR,Zc (by rw[aS,bq,bq];omega),Zc (by rw[aS,bq,bq];omega),Zk (BT n _ s (D9)),D6,au,ao,Zc (show aO (i:Int) 16=true from Zi av),Zc (gO AC)];refine aN (16-(i+1)) _ _ AC ⟨i+1,?_,AC,aJ _,rfl⟩;congr 2;rw[MW,show List.replicate (16-i) (0:Int)=0::List.replicate (16-(i+1)) 0 by rw[show 16-i=(16-(i+1))+1 by omega];rfl];have e3:i=(ints (dO b i)).length:=by simp[ints,pG]
    have e4:=tC (ints (dO b i)) [.i 0] (ints (List.replicate (16-(i+1)) 0)) [.i (bL b (2*i) 2)] rfl;rw[<-e3]at e4;show cG (ints (dO b i)++([.i 0]++ints (List.replicate (16-(i+1)) 0))) i [.i (bL b (2*i) 2)]=ints (dO b i++[bL b (2*i) 2])++_;rw[e4,show ints (dO b i++[bL b (2*i) 2])=ints (dO b i)++[.i (bL b (2*i) 2)] by unfold ints;rw[eV];rfl,dL]
   .rw[aU]
    have ry:i=16:=AC
    subst ry;rw[show ints (dO b 16)++ints (List.replicate (16-16) 0)=ints (dO b 16)from fP _]at hlen⊢;subst mU;simp only[cX,ao];rw[bN hlen];refine Ok.cv (S9 n (dO b 16) (pG b 16) s) λs2 bd=>?_
    have df:=Zw6 ho;cases C4:mM (dO b 16)
    .rw[C4]at df;show Ok Q (ft [.str [],.bool false] _ s2);rw[bZ,ar,ao,Za,bD,ae];simp only[ar,ao];rw[ae];exact bad s2 (aH.trans bd) df
    .rename_i c;rw[C4]at df;simp only at df;show Ok Q (ft [.str c,.bool true] _ s2);rw[bZ,ar,ao,Za,bI,af];have rl: ∀(K:ah->M ah),dV p 64 K s2=K (bT l) s2:=λK=>by
      have:=j9 (show Sl _ _ (bT l)from fW.mono bd) K;rwa [Zw,hl]at this
     rw[rl,<-qi,uJ];simp only[ar,ao];cases cU:(c==l)
     .rw[cU]at df;rw[bD,ae];exact bad s2 (aH.trans bd) df
     .rw[cU]at df;rw[bI,af,bN hlen,Zd,<-hQ];refine .mk ⟨s2,aH.trans bd,?_⟩;rw[df];exact⟨rfl,pG b 16⟩
  .rw[bP hk,bD,ae]
   grind[ZY]
theorem Zrk:(bX oQ:ah)=[.bool false,.i 0,.i 0,.bool false,.i 0,.i 0,.bool false,.i 0,.i 0,.bool false,.i 0,.i 0,.bool false,.i 0,.i 0,.bool false,.i 0,.i 0,.bool false,.i 0,.i 0]:=rfl
theorem ZnS (n:Nat) (p:ai) (l:aj) (st:St) (hs:dD st p l) (hl:l.length=64) (hn:500<=n):
  Ok (λo=>∃s',aB st s'/\match ZI l with
   |none=>o=(.val [.agg (bX oQ),.bool false],s')
   |some x=>o=(.val [.agg (bX x),.bool true],s')/\x.length=7) (run Bd n 309 [.slice 1 p 64] st):=by
 obtain _|n:=n;omega;rw[Ze,h.ahG];unfold Rs ck yI az vL cT nh bj ZN Lb Ls tw DN
 try dsimp only
 rw[aZ,ao,<-Zrk];refine Ok.cv (Io n p l st hs hl) λs1 aH=>?_
 have fW:=hs.mono aH;have⟨Q,hQ⟩: ∃Q:Out ah×St->Prop,(λo=>∃s',aB st s'/\match ZI l with
   |none=>o=(.val [.agg (bX oQ),.bool false],s')
   |some x=>o=(.val [.agg (bX x),.bool true],s')/\x.length=7)=Q:=⟨_,rfl⟩
 have bad: ∀s',aB st s'->ZI l=none->Ok Q ((aw [.agg (bX oQ),.bool false]:M ah) s'):=λs' hp hg=>by
  rw[Zd,<-hQ];refine .mk ⟨s',hp,?_⟩;rw[hg]
 rw[hQ];unfold Bn;cases ho:eK l
 .simp only[au,bZ,ar,ao];rw[Za,bD,ae];simp only[ar,ao];rw[ae];exact bad s1 aH (by unfold ZI;rw[ho])
 .rename_i q;have⟨k,t,b⟩:=q;have⟨_,hb,_,ht⟩:=vT ho;simp only[au,bZ,ar,ao];rw[Za,bI,af,pJ k 2 2 rfl];simp only[ar,ao];by_cases hk:k=2
  .subst hk
   rw[aQ rfl,bI,af];refine Ok.join λaG mU=>?_
   refine Zj _ (λq y s=>∃i:Nat,y=[.agg (bX (ZQ b t i)++bX (List.replicate (7-i) gQ)),.i i]/\i<=7/\7-i<=q/\s=s1) ?_ 7 n _ _ ⟨0,rfl,AC,AC,rfl⟩ AC;rintro q _ s ⟨i,rfl,hi,hq,rfl⟩ rec aN;have hlen:(bX (ZQ b t i)++bX (List.replicate (7-i) gQ)).length=21:=by
    rw[ba,ZE,ZE,BZ,pw];omega
   rw[cX,au,ao,bN hlen];by_cases av:i<7
   .have cL:aq ((i:Int)+1)=((i+1:Nat):Int):=Zb
    have kY:aq (8*(i:Int))=((8*i:Nat):Int):=Zb;have lN:aq (((8*i:Nat):Int)+4)=((8*i+4:Nat):Int):=Zb;have sP:aq (((8*i:Nat):Int)+8)=((8*i+4+4:Nat):Int):=Zb;have bd:2^i<=2^6:=pB EQ AC;have hpp:=Ab i;have hw6:aq (1*2^(min i 64))=((2^i:Nat):Int):=by
     rw[pA AC,Int.one_mul,show((2:Int)^i)=((2^i:Nat):Int) by simp];exact Zb
    simp only[cL,kY,lN,sP,bn,hw6];have aiv:((aq ((t:Int).tdiv ((2^i:Nat):Int))).tmod 2==1)=eN t i:=by
     rw[show((t:Int).tdiv ((2^i:Nat):Int))=((t/2^i:Nat):Int)from rfl];unfold eN;have hd:t/2^i<=t:=FH _ _;generalize t/2^i=d at hd;rw[Zb,show(d:Int).tmod 2=((d%2:Nat):Int)from rfl];exact pJ _ 1 1 rfl
    rw[aR,Zc (aQ AC),Zc (by rw[dM.2 AC];rfl),Zc (by rw[aS,bq,bq];omega),Zc (by rw[aS,bq,bq];omega),xr (BT n _ s (D9)),D6,au,ao,Zc (by rw[aS,bq,bq];omega),Zc (by rw[aS,bq,bq];omega),xr (BT n _ s (D9)),D6,au,ao,aiv,Zc (show aO (i:Int) 7=true from Zi av),Zc (gO AC)];refine aN (7-(i+1)) _ _ AC ⟨i+1,?_,AC,aJ _,rfl⟩;congr 2;have e2:List.replicate (7-i) gQ=gQ::List.replicate (7-(i+1)) gQ:=by rw[show 7-i=(7-(i+1))+1 by omega];rfl
    have e3:i*3=(bX (ZQ b t i)).length:=by rw[ZE,BZ]
    have e4:=tC (bX (ZQ b t i)) (eZ gQ) (bX (List.replicate (7-(i+1)) gQ)) (eZ (wa b t i)) rfl;rw[<-e3]at e4;rw[It,IV,e2];show cG (bX (ZQ b t i)++(eZ gQ++bX (List.replicate (7-(i+1)) gQ))) (i*3) (eZ (wa b t i))=(bX (ZQ b t i)++bX [wa b t i])++_;rw[e4,dL];congr 1
   .rw[aU]
    have ry:i=7:=AC
    subst ry;rw[show bX (ZQ b t 7)++bX (List.replicate (7-7) gQ)=bX (ZQ b t 7)from fP _]at hlen⊢;subst mU;simp only[cX,ao];rw[bN hlen];refine Ok.cv (Zlz n (ZQ b t 7) (BZ b t 7) s) λs2 bd=>?_
    have df:=Zwf ho;cases C4:qo (ZQ b t 7)
    .rw[C4]at df;show Ok Q (ft [.str [],.bool false] _ s2);rw[bZ,ar,ao,Za,bD,ae];simp only[ar,ao];rw[ae];exact bad s2 (aH.trans bd) df
    .rename_i c;rw[C4]at df;simp only at df;show Ok Q (ft [.str c,.bool true] _ s2);rw[bZ,ar,ao,Za,bI,af];have rl: ∀(K:ah->M ah),dV p 64 K s2=K (bT l) s2:=λK=>by
      have:=j9 (show Sl _ _ (bT l)from fW.mono bd) K;rwa [Zw,hl]at this
     rw[rl,<-qi,uJ];simp only[ar,ao];cases cU:(c==l)
     .rw[cU]at df;rw[bD,ae];exact bad s2 (aH.trans bd) df
     .rw[cU]at df;rw[bI,af,bN hlen,Zd,<-hQ];refine .mk ⟨s2,aH.trans bd,?_⟩;rw[df];exact⟨rfl,BZ b t 7⟩
  .rw[bP hk,bD,ae]
   grind[ZI]
theorem Zyb (k:Int):wM k= !iU k:=by
 grind[wM,iU]
theorem Zxc (x:jz):mb x=((bif (bif (bif decide (x.br.slot>=0)then decide (x.br.slot<=1791)else false)then decide (x.br.gen>=1)else false)then decide (x.br.gen<=4294967295)else false)&&decide ((x.kids.length:Int)<=12)&&x.kids.all iU):=by
 have hk:(!x.kids.any wM)=x.kids.all iU:=by
  rw[nL,kN,List.any_eq_false,qP];simp[Zyb]
 grind[mb]
theorem Zp5 (n:Nat) (x:jz) (z:Nat) (p:ai) (st:St) (hz:z=1\/p=none) (hs:Sl st p (ints x.kids)) (hl:x.kids.length<1000) (hn:x.kids.length+10<=n):
  Ok (λo=>o=(.val [.bool (mb x)],st)) (run Bd n 319 [.agg (pY x z p)] st):=by
 obtain⟨n,rfl⟩: ∃m,n=m+2:=⟨n-2,AC⟩;rw[Ze,h.ahP];unfold Sx F4 az cT Zo bF Lb Li FO
 try dsimp only
 rw[fh];unfold pY fJ;simp only[oo,gR,au,Zh 1 z p _ hz,ao];refine Ok.join λax sC=>?_
 have go: ∀c:Bool,c=(bif (bif (bif decide (x.br.slot>=0)then decide (x.br.slot<=1791)else false)then decide (x.br.gen>=1)else false)then decide (x.br.gen<=4294967295)else false)->
   Ok (λo=>o=(.val [.bool (mb x)],st)) (dc (λaV st=>
      gT st λDl st=>
      aC .i64 st λi st=>
      aF st<|
      cO (λst=>gT st λb5 st=>aF st<|
       bif b5 then
       bK p λi1 o=>
      aA (aO i x.kids.length)<|
      bH i1 (i.toNat*1+o) λd=>
      db .i64 d λx=>
      c9 (run Bd (n+1) 251 [.i x]) λds=>
      gT ds λx1 ds=>
      aF ds<|
      aV [.bool x1,.i (aq (i+1))]
      else
       (aw [.bool Dl]:M ah)) λdS=>
      bif decide (i<(x.kids.length:Int))then
       dS [.bool Dl]
      else
       dS [.bool false]) (n+1) [.bool (c&&decide ((x.kids.length:Int)<=12)),.i 0] st):=λc hc=>by
  rw[Zxc,<-hc];generalize (c&&decide ((x.kids.length:Int)<=12))=e;refine Zj _ (λq y t=>∃i:Nat,y=[.bool (e&&(x.kids.take i).all iU),.i (i:Int)]/\i<=x.kids.length/\x.kids.length-i<=q/\t=st) ?_ x.kids.length (n+1) _ _ Fd AC;rintro q y t ⟨i,rfl,hi,hq,rfl⟩ rec aN;rw[ar,au,ao,Za];by_cases av:i<x.kids.length
  .rw[aR]
   simp only[ar,ao];have hY:x.kids.take (i+1)=x.kids.take i++[x.kids[i]]:=Do
   cases hb:(e&&(x.kids.take i).all iU)
   .rw[af,Zd];refine .mk ?_;grind
   .obtain⟨i1,o1,rfl⟩:=hs.cS (by simp[ints];omega);have da:(ints x.kids)[i]? =some (.i x.kids[i]):=ZJ av;rw[ae,bh,Zc (Zi av),bn,hs.dX da,bg,Zk (Im n _ t),ar,ao,Zb];refine aN (x.kids.length-(i+1)) _ _ AC ⟨i+1,?_,AC,aJ _,rfl⟩;rw[aS]at hb;rw[hY,uC,hb.1,hb.2];simp
  .rw[aU]
   simp only[ar,ao];rw[af,dG AC,Zd];exact .mk rfl
 subst sC;cases h1:decide (x.br.slot>=0)
 .rw[af];have:=go false (by rw[h1];rfl);simp only[af,ar,ao,Za,gF]at this⊢;exact this
 .rw[ae];simp only[ar,ao];have:=go (bif (bif decide (x.br.slot<=1791)then decide (x.br.gen>=1)else false)then decide (x.br.gen<=4294967295)else false) (by rw[h1];rfl);rw[Za];cases h2:decide (x.br.slot<=1791)
  .rw[h2]at this;simp only[af,ar,ao,Za,gF]at this⊢;exact this
  .rw[h2]at this;simp only[ae,ar,ao,Za]at this⊢;grind
theorem Zui (n:Nat) (p:ai) (l:aj) (st:St) (hs:dD st p l) (hl:l.length=64) (hn:3000<=n):
  Ok (λo=>∃s',aB st s'/\match iy l with
   |none=>o=(.val [.agg [.i 0,.i 0,.i 0,.i 0,.slice 0 none 0],.bool false],s')
   |some x=>∃q,o=(.val [.agg (pY x 1 q),.bool true],s')/\Fz s' q (ints x.kids)) (run Bd n 311 [.slice 1 p 64] st):=by
 obtain _|n:=n;omega;rw[Ze,h.ahI];unfold TK ck yI az rW Gb bF lV F0 nh bj BR Ls yy FZ Lb Li Ge F5
 try dsimp only
 rw[aZ,ao,Z8];refine Ok.cv (Io n p l st hs hl) λs1 aH=>?_
 have fW:=hs.mono aH;have⟨Q,hQ⟩: ∃Q:Out ah×St->Prop,(λo=>∃s',aB st s'/\match iy l with
   |none=>o=(.val [.agg [.i 0,.i 0,.i 0,.i 0,.slice 0 none 0],.bool false],s')
   |some x=>∃q,o=(.val [.agg (pY x 1 q),.bool true],s')/\Fz s' q (ints x.kids))=Q:=⟨_,rfl⟩
 have bad: ∀s',aB st s'->iy l=none->Ok Q ((cw st.length [.agg [.i 0,.i 0,.i 0,.i 0,.slice 0 none 0],.bool false]:M ah) s'):=λs' hp hg=>by
  rw[Zs,<-hQ];refine .mk ⟨_,Zx hp,?_⟩;rw[hg]
 rw[hQ];unfold Bn;cases ho:eK l
 .simp only[au,bZ,ar,ao];rw[Za,bD,ae];simp only[ar,ao];rw[Za,ae];simp only[ar,ao];rw[ae];exact bad s1 aH (by unfold iy;rw[ho])
 .rename_i q;have⟨k,t,b⟩:=q;have⟨_,hb,_,ht⟩:=vT ho;simp only[au,bZ,ar,ao];rw[Za,bI,af,pJ k 1 1 rfl];simp only[ar,ao];rw[Za];by_cases hk:k=1
  .subst hk
   rw[aQ rfl,bI,af];simp only[ar,ao];by_cases K2:t<=12
   .rw[aU]
    have df:=Zwy ho K2;have rn: ∀(a c:Nat),c<=8->run Bd n 292 [.str ((b.take (a+c)).drop a)] s1=some (.val [.i (bL b a c)],s1):=λa c hc=>by
     rw[BT n _ s1 (D9 hc),D6]
    rw[Zc (aQ AC),qY (rn 16 4 AC) (.refl _),au,ao,Zc (aQ AC),qY (rn 20 4 AC) (.refl _),au,ao];have r0:run Bd n 292 [.str (b.take 8)] s1=some (.val [.i (bL b 0 8)],s1):=by
     have:=rn 0 8 AC;rwa [dF]at this
    rw[Zc (aQ AC),qY r0 (.refl _),au,ao,Zc (aQ AC),qY (rn 8 8 AC) (.refl _),au,ao];refine Ok.join λaW oe=>?_
    refine Zj _ (λq y s=>∃(i z:Nat) (pk:ai),y=[.agg [.i (bL b 16 4),.i (bL b 20 4),.i (bL b 0 8),.i (bL b 8 8),.slice z pk i],.i i]/\(z=1\/pk=none)/\i<=t/\t-i<=q/\bc st s pk (ints (pK b i))/\dD s p l) ?_ t n _ _ ⟨0,0,none,rfl,.inr rfl,AC,AC,.nil aH,fW⟩ AC;rintro q _ s ⟨i,z,pk,rfl,hz,hi,hq,gW,y7⟩ rec aN;rw[fh];simp only[au,Zh 1 z pk _ hz,ao];have fM:(pK b i).length=i:=DQ b i;have j3:(ints (pK b i)).length=i*1:=by simp[ints,fM]
    by_cases av:i<t
    .have cL:aq ((i:Int)+1)=((i+1:Nat):Int):=Zb
     have kY:aq (2*(i:Int))=((2*i:Nat):Int):=Zb;have lN:aq (26+((2*i:Nat):Int))=((24+2*i+2:Nat):Int):=by rw[Zb];omega
     have sP:aq (24+((2*i:Nat):Int))=((24+2*i:Nat):Int):=by rw[Zb];omega
     simp only[cL,kY,lN,sP,bn];rw[aR,Zc (by rw[aS,bq,bq];omega),Zc (by rw[aS,bq,bq];omega),xr (BT n _ s (D9 (a:=24+2*i))),D6,au,ao];have⟨q2,s2,du,ze⟩:=gW.push (Y:=ah) (sz:=1) (n:=i) (lim:=8796093022208) [.i (bL b (24+2*i) 2)] AC j3 rfl AC;rw[ze];refine aN (t-(i+1)) _ _ AC ⟨i+1,1,q2,rfl,.inl rfl,AC,aJ _,?_,?_⟩
     .rw[ZnO,show ints (pK b i++[bL b (24+2*i) 2])=ints (pK b i)++[.i (bL b (24+2*i) 2)] by unfold ints;rw[eV];rfl]
      exact du
     .exact hs.mono du.1
    .rw[aU]
     have ED:i=t:=AC
     subst ED;subst oe;show Ok Q (bp [DV.agg _] _ s);rw[fh];simp only[au,aZ,ao];have dR:Sl s pk (ints (mc b i).kids):=gW.sl;have rz:(mc b i).kids.length=i:=fM;have qC:([.i (bL b 16 4),.i (bL b 20 4),.i (bL b 0 8),.i (bL b 8 8),.slice 1 pk i]:ah)=pY (mc b i) 1 pk:=by
      unfold pY fJ mc;grind
     rw[qC];refine Ok.call (Zp5 n (mc b i) 1 pk s (.inl rfl) dR AC AC) ?_;rintro _ rfl;refine⟨_,s,rfl,?_⟩;rw[ar,ao,Za];cases hr:mb (mc b i)
     .rw[hr,gF,af]at df;rw[bD,ae];simp only[ar,ao];rw[ae];exact bad s gW.1 df
     .rw[hr,dt]at df;rw[bI,af];refine Ok.cx (Zmc n (mc b i) 1 pk s (.inl rfl) dR AC) λs2 bd=>?_
      rw[bZ,ao];have rl: ∀(K:ah->M ah),dV p 64 K s2=K (bT l) s2:=λK=>by
       have:=j9 (show Sl _ _ (bT l)from y7.mono bd) K;rwa [Zw,hl]at this
      rw[rl,<-qi,uJ];simp only[ar,ao];have sH:=gW.mono bd;cases cU:(oU (mc b i)==l)
      .rw[cU]at df;rw[bD,ae];exact bad s2 sH.1 df
      .rw[cU,ae]at df;rw[bI,af,Zs,<-hQ];refine .mk ⟨_,Zx sH.1,?_⟩;rw[df];exact⟨pk,rfl,sH.fz⟩
   .rw[aR]
    refine bad s1 aH ?_;unfold iy;rw[ho];grind
  .rw[bP hk,bD,ae]
   simp_all[iy]
theorem ZpH (n:Nat) (p:ai) (l:aj) (st:St) (hs:dD st p l) (hl:l.length=64) (hn:3000<=n):
  Ok (λo=>∃s',aB st s'/\match kl l with
   |none=>o=(.val [.slice 0 none 0,.bool false],s')
   |some x=>∃q,o=(.val [.slice 1 q x.length,.bool true],s')/\Sl s' q (ints x)/\x.length<=16) (run Bd n 269 [.slice 1 p 64] st):=by
 obtain _|n:=n;omega;rw[Ze,h.ahg];unfold RK ck yI az gj vL l9 cK bj vN Lb Ls Li fj jy
 try dsimp only
 rw[aZ,ao,Z8];refine Ok.cv (Io n p l st hs hl) λs1 aH=>?_
 have⟨Q,hQ⟩: ∃Q:Out ah×St->Prop,(λo=>∃s',aB st s'/\match kl l with
   |none=>o=(.val [.slice 0 none 0,.bool false],s')
   |some x=>∃q,o=(.val [.slice 1 q x.length,.bool true],s')/\Sl s' q (ints x)/\x.length<=16)=Q:=⟨_,rfl⟩
 have bad: ∀s',aB st s'->kl l=none->Ok Q ((cw st.length [.slice 0 none 0,.bool false]:M ah) s'):=λs' hp hg=>by
  rw[Zs,<-hQ];refine .mk ⟨_,Zx hp,?_⟩;rw[hg]
 rw[hQ];unfold Bn;cases ho:eK l
 .simp only[au,bZ,ar,ao];rw[Za,bD,ae];simp only[ar,ao];rw[Za,ae];simp only[ar,ao];rw[ae];exact bad s1 aH (by unfold kl;rw[ho])
 .rename_i q;have⟨k,t,b⟩:=q;have⟨_,hb,_,ht⟩:=vT ho;simp only[au,bZ,ar,ao];rw[Za,bI,af,pJ k 6 6 rfl];simp only[ar,ao];rw[Za];by_cases hk:k=6
  .subst hk
   rw[aQ rfl,bI,af];simp only[ar,ao];by_cases K2:t<=16
   .rw[aU]
    have df:=Zx9 ho K2;refine Ok.join λaW oe=>?_
    refine Zj _ (λq y s=>∃(i z:Nat) (pk:ai),y=[.slice z pk i,.i i]/\(z=1\/pk=none)/\i<=t/\t-i<=q/\bc st s pk (ints (dO b i))) ?_ t n _ _ ⟨0,0,none,rfl,.inr rfl,AC,AC,.nil aH⟩ AC;rintro q _ s ⟨i,z,pk,rfl,hz,hi,hq,gW⟩ rec aN;simp only[au,Zh 1 z pk _ hz,ao];have fM:(dO b i).length=i:=pG b i;have j3:(ints (dO b i)).length=i*1:=by simp[ints,fM]
    by_cases av:i<t
    .have cL:aq ((i:Int)+1)=((i+1:Nat):Int):=Zb
     have kY:aq (2*(i:Int))=((2*i:Nat):Int):=Zb;have lN:aq (((2*i:Nat):Int)+2)=((2*i+2:Nat):Int):=by rw[Zb];omega
     simp only[cL,kY,lN,bn];rw[aR,Zc (by rw[aS,bq,bq];omega),Zc (by rw[aS,bq,bq];omega),Zk (BT n _ s (D9 (a:=2*i))),D6,au,ao];have⟨q2,s2,du,ze⟩:=gW.push (Y:=ah) (sz:=1) (n:=i) (lim:=8796093022208) [.i (bL b (2*i) 2)] AC j3 rfl AC;rw[ze];refine aN (t-(i+1)) _ _ AC ⟨i+1,1,q2,rfl,.inl rfl,AC,aJ _,?_⟩;rw[MW,show ints (dO b i++[bL b (2*i) 2])=ints (dO b i)++[.i (bL b (2*i) 2)] by unfold ints;rw[eV];rfl];exact du
    .rw[aU]
     have ED:i=t:=AC
     subst ED;subst oe;simp only[aZ,ao];have hdc:=ZmN n (dO b i) 1 pk s (.inl rfl) gW.sl;rw[fM]at hdc;refine Ok.cv hdc λs2 bd=>?_
     have sH:=gW.mono bd;cases C4:sf (dO b i)
     .rw[C4]at df;show Ok Q (ft [.str [],.bool false] _ s2);rw[bZ,ar,ao,Za,bD,ae];simp only[ar,ao];rw[ae];exact bad s2 sH.1 df
     .rename_i c;rw[C4]at df;simp only at df;show Ok Q (ft [.str c,.bool true] _ s2);rw[bZ,ar,ao,Za,bI,af];have rl: ∀(K:ah->M ah),dV p 64 K s2=K (bT l) s2:=λK=>by
       have:=j9 (show Sl _ _ (bT l)from hs.mono sH.1) K;rwa [Zw,hl]at this
      rw[rl,<-qi,uJ];simp only[ar,ao];cases cU:(c==l)
      .rw[cU]at df;rw[bD,ae];exact bad s2 sH.1 df
      .rw[cU]at df;rw[bI,af,Zs,<-hQ];refine .mk ⟨_,Zx sH.1,?_⟩;rw[df];exact⟨pk,by rw[fM],sH.sl.gk _,AC⟩
   .rw[aR]
    refine bad s1 aH ?_;unfold kl;rw[ho];grind
  .rw[bP hk,bD,ae]
   simp_all[kl]
theorem ZyF (k:Int):rh k=iU k:=by
 grind[rh,iU]
theorem ZqK (n:Nat) (x:ZL) (st:St) (hl:x.cF.length=12) (hm:x.mask<4294967296) (hs:x.name.length<1000) (hn:x.name.length+30<=n):
  Ok (λo=>∃s',o=(.val [.bool (mL x)],s')/\aB st s') (run Bd n 293 [.agg (Z0 x)] st):=by
 obtain⟨n,rfl⟩: ∃m,n=m+2:=⟨n-2,AC⟩;rw[Ze,h.ahv];unfold SX bF az Q_ jx Ls Lb gG Li
 try dsimp only
 rw[fh];unfold Z0;have j3:(ints x.cF).length=12:=by simp[ints,hl]
 rw[bZ,au,bN j3,ao,bN Fd];refine Ok.cv (ZkE (n+1) x.name AC AC st) λs1 aH=>?_
 rw[ar,ao];have bad:mL x=false->Ok (λo=>∃s',o=(.val [.bool (mL x)],s')/\aB st s') ((aw [.bool false]:M ah) s1):=λhr=>by
  rw[Zd];exact .mk ⟨s1,by rw[hr],aH⟩
 rw[Za];cases C0:pH x.name with
 |false=>
  rw[bD,ae];simp only[ar,ao];rw[Za,ae];simp only[ar,ao];rw[ae];exact bad (by grind[mL])
 |true=>
 rw[bI,af,bP (AC:¬(x.mask:Int)<0)];simp only[ar,ao];rw[Za,af];by_cases h4:(x.mask:Int)>4095
 .rw[aQ h4]
  simp only[ar,ao];rw[ae];grind[mL]
 rw[bP h4];simp only[ar,ao];rw[af];have hq:mL x=(List.range 12).all λi=>qE x.mask i (x.cF.getD i 0):=by
  grind[mL]
 refine Ok.join λaW oe=>?_
 refine Zj _ (λq y t=>∃i:Nat,y=[.i ((x.mask/2^i:Nat):Int),.i (i:Int)]/\i<=12/\12-i<=q/\t=s1/\∀j,j<i->qE x.mask j (x.cF.getD j 0)=true) ?_ 12 (n+1) _ _ Fd AC;rintro q y t ⟨i,rfl,hi,hqi,rfl,dH⟩ rec aN;simp only[au,ao];by_cases av:i<12
 .have da:(ints x.cF)[i]? =some (.i (x.cF.getD i 0)):=by
   rw[ZJ,cz,cc AC];rfl
  have⟨w,hw⟩: ∃w,x.cF.getD i 0=w:=⟨_,rfl⟩;have⟨m,mn⟩: ∃m,x.mask/2^i=m:=⟨_,rfl⟩;have eG:x.mask/2^(i+1)=m/2:=by rw[tn,<-H3,mn]
  have al0:m<=x.mask:=by rw[<-mn];exact FH _ _
  have hhf:qE x.mask i w=bif decide (m%2=1)then iU w else w==0:=by
   unfold qE eN;rw[mn,ZyF]
  rw[hw]at da;rw[mn,aR];have e0:((m:Int).tmod 2==0)=decide (m%2=0):=by
   rw[show(m:Int).tmod 2=((m%2:Nat):Int)from rfl];exact pJ _ 0 0 rfl
  have e1:((m:Int).tmod 2==1)=decide (m%2=1):=by
   rw[show(m:Int).tmod 2=((m%2:Nat):Int)from rfl];exact pJ _ 1 1 rfl
  rw[e0,e1];have AN:qE x.mask i w=true->Ok (λo=>∃s',o=(.val [.bool (mL x)],s')/\aB st s') (rec [.i (aq ((m:Int).tdiv 2)),.i (aq ((i:Int)+1))] t):=λhf=>by
   rw[show(m:Int).tdiv 2=((m/2:Nat):Int)from rfl,Zb,Zb];refine aN (12-(i+1)) _ _ AC ⟨i+1,by rw[eG];rfl,AC,aJ _,rfl,λj hj=>?_⟩;by_cases oJ:j=i
   .rw[oJ,hw];exact hf
   grind
  rw[Za];by_cases PB:m%2=1
  .rw[aR PB]at hhf
   rw[aU];simp only[ar,ao];rw[Za,af,Za,aR PB,Zc (show aO (i:Int) 12=true from Zi av),bn,cR,iI da,bg,Zk (Im n w t)];simp only[ar,ao];grind
  .rw[aU PB]at hhf
   rw[aR,Zc (show aO (i:Int) 12=true from Zi av),bn,cR,iI da];simp only[bg,ar,ao];rw[Za];cases hz:(w==0)
   .rw[bD,ae];simp only[ar,ao];rw[ae];grind
   .rw[bI,af,Za,aU PB];simp only[ar,ao];rw[af];grind
 .rw[aU,oe]
  simp only[ao,Zd];refine .mk ⟨t,?_,aH⟩;grind
theorem ZsO (n:Nat) (p:ai) (l:aj) (st:St) (hs:dD st p l) (hl:l.length=64) (hn:3000<=n):
  Ok (λo=>∃s',aB st s'/\match ZH l with
   |none=>o=(.val [.agg (Z0 Eh),.bool false],s')
   |some x=>o=(.val [.agg (Z0 x),.bool true],s')/\x.cF.length=12) (run Bd n 270 [.slice 1 p 64] st):=by
 obtain _|n:=n;omega;rw[Ze,h.ahh];unfold TM ck yI az rW bF lV cT cK bj FX Ls Lb Li FV
 try dsimp only
 rw[aZ,ao];refine Ok.cv (Io n p l st hs hl) λs1 aH=>?_
 have fW:=hs.mono aH;have⟨Q,hQ⟩: ∃Q:Out ah×St->Prop,(λo=>∃s',aB st s'/\match ZH l with
   |none=>o=(.val [.agg (Z0 Eh),.bool false],s')
   |some x=>o=(.val [.agg (Z0 x),.bool true],s')/\x.cF.length=12)=Q:=⟨_,rfl⟩
 have hq0:(Z0 Eh:ah)=[.str (bs []),.i 0,.i 0,.i 0,.i 0,.i 0,.i 0,.i 0,.i 0,.i 0,.i 0,.i 0,.i 0,.i 0]:=rfl;rw[<-hq0];have bad: ∀s',aB st s'->ZH l=none->Ok Q ((aw [.agg (Z0 Eh),.bool false]:M ah) s'):=λs' hp hg=>by
  rw[Zd,<-hQ];refine .mk ⟨s',hp,?_⟩;rw[hg]
 rw[hQ];unfold Bn;cases ho:eK l
 .simp only[au,bZ,ar,ao];rw[Za,bD,ae];simp only[ar,ao];rw[Za,ae];simp only[ar,ao];rw[ae];exact bad s1 aH (by grind[ZH])
 .rename_i q;have⟨k,t,b⟩:=q;have⟨_,hb,_,ht⟩:=vT ho;simp only[au,bZ,ar,ao];rw[Za,bI,af,pJ k 5 5 rfl];simp only[ar,ao];rw[Za];by_cases hk:k=5
  .subst hk
   rw[aQ rfl,bI,af];simp only[ar,ao];by_cases K2:t<=28
   .rw[aU]
    have df:=ZuC ho K2;have r0:run Bd n 292 [.str (b.take 4)] s1=some (.val [.i ((rd b 0 4:Nat):Int)],s1):=by
     rw[BT n _ s1 (by rw[cB];omega)];have e:ef (b.take 4)=rd b 0 4:=by unfold rd;rw[dF]
     have av:=Ql b 0 4;rw[e,Zb]
    rw[Zc (aQ AC),qY r0 (.refl _),au,ao];have akf:aq (28+(t:Int))=((28+t:Nat):Int):=by rw[Zb];omega
    rw[akf,Zc (by rw[aS,bq,bq];omega),Zc (aQ AC),bn];have C0:(b.take (28+t)).drop 28=(b.drop 28).take t:=by rw[BC,show 28+t-28=t by omega]
    rw[C0];refine Ok.join λaW oe=>?_
    refine Zj _ (λq y s=>∃i:Nat,y=[.agg (DV.str ((b.drop 28).take t)::DV.int .i64 ((rd b 0 4:Nat):Int)::(ints (ZV b i)++ints (List.replicate (12-i) 0))),.i i]/\i<=12/\12-i<=q/\s=s1) ?_ 12 n _ _ ⟨0,rfl,AC,AC,rfl⟩ AC;rintro q _ s ⟨i,rfl,hi,hq,rfl⟩ rec aN;have hlen:(ints (ZV b i)++ints (List.replicate (12-i) 0)).length=12:=by
     simp[ints,DS];omega
    rw[fh,bZ,au,bN hlen,au,ao];by_cases av:i<12
    .have cL:aq ((i:Int)+1)=((i+1:Nat):Int):=Zb
     have kY:aq (2*(i:Int))=((2*i:Nat):Int):=Zb;have lN:aq (6+((2*i:Nat):Int))=((4+2*i+2:Nat):Int):=by rw[Zb];omega
     have sP:aq (4+((2*i:Nat):Int))=((4+2*i:Nat):Int):=by rw[Zb];omega
     simp only[cL,kY,lN,sP,bn,cR];rw[aR,Zc (by rw[aS,bq,bq];omega),Zc (by rw[aS,bq,bq];omega),Zk (BT n _ s (D9 (a:=4+2*i))),D6,au,ao,Zc (show aO (i:Int) 12=true from Zi av),Zc (gO AC)];refine aN (12-(i+1)) _ _ AC ⟨i+1,?_,AC,aJ _,rfl⟩;congr 4;rw[ZmG,show List.replicate (12-i) (0:Int)=0::List.replicate (12-(i+1)) 0 by rw[show 12-i=(12-(i+1))+1 by omega];rfl];have e3:i=(ints (ZV b i)).length:=by simp[ints,DS]
     have e4:=tC (ints (ZV b i)) [.i 0] (ints (List.replicate (12-(i+1)) 0)) [.i (bL b (4+2*i) 2)] rfl;rw[<-e3]at e4;show cG (ints (ZV b i)++([.i 0]++ints (List.replicate (12-(i+1)) 0))) i [.i (bL b (4+2*i) 2)]=ints (ZV b i++[bL b (4+2*i) 2])++_;rw[e4,show ints (ZV b i++[bL b (4+2*i) 2])=ints (ZV b i)++[.i (bL b (4+2*i) 2)] by unfold ints;rw[eV];rfl,dL]
    .rw[aU]
     have ry:i=12:=AC
     subst ry;rw[show ints (ZV b 12)++ints (List.replicate (12-12) 0)=ints (ZV b 12)from fP _]at hlen⊢;have qC:(DV.str ((b.drop 28).take t)::DV.int .i64 ((rd b 0 4:Nat):Int)::ints (ZV b 12))=Z0 (Z1 b t):=rfl;have sB:(Z1 b t).cF.length=12:=DS b 12;have Ky:(Z1 b t).mask<4294967296:=Ql b 0 4;have Be:(Z1 b t).name.length<=28:=by
      show((b.drop 28).take t).length<=28;rw[cB];omega
     subst oe;show Ok Q (bp [DV.agg _] _ s);rw[fh,bZ,au,bN hlen,ao,qC];refine Ok.cv (ZqK n (Z1 b t) s sB Ky AC AC) λs2 bd=>?_
     rw[ar,ao,Za];cases hr:mL (Z1 b t)
     .rw[hr,gF,af]at df;rw[bD,ae];simp only[ar,ao];rw[ae];exact bad s2 (aH.trans bd) df
     .rw[hr,dt]at df;rw[bI,af];refine Ok.cx (Zmf n (Z1 b t) sB AC s2 AC) λs3 dh=>?_
      rw[bZ,ao];have rl: ∀(K:ah->M ah),dV p 64 K s3=K (bT l) s3:=λK=>by
       have:=j9 (show Sl _ _ (bT l)from fW.mono (bd.trans dh)) K;rwa [Zw,hl]at this
      rw[rl,<-qi,uJ];simp only[ar,ao];cases cU:(pZ (Z1 b t)==l)
      .rw[cU]at df;rw[bD,ae];exact bad s3 (aH.trans (bd.trans dh)) df
      .rw[cU,ae]at df;rw[bI,af,bN (by rw[<-qC];simp[hlen]),Zd,<-hQ];refine .mk ⟨s3,aH.trans (bd.trans dh),?_⟩;rw[df];exact⟨rfl,sB⟩
   .rw[aR]
    refine bad s1 aH ?_;unfold ZH;rw[ho];grind
  .rw[bP hk,bD,ae]
   simp_all[ZH]
def tR:ak:=List.replicate 16 0
def gZ (img:aj) (k:Int):Option (ak):=if k=0 then some tR else match j8 img k with
 |none=>none
 |some l=>ZY l
def lg (img:aj) (k:Int):Option (List aX):=if k=0 then some oQ else match j8 img k with
 |none=>none
 |some l=>ZI l
theorem I6 (img:aj) (k:Int):((gZ img k).getD tR).length=16:=by
 unfold gZ;by_cases h:k=0
 .rw[bx h];rfl
 .rw[aY h]
  cases hl:j8 img k
  .rfl
  .rename_i l;simp only;cases hg:ZY l
   .rfl
   .rename_i f;exact Ut hg
theorem NA (img:aj) (k:Int):((lg img k).getD oQ).length=7:=by
 unfold lg;by_cases h:k=0
 .rw[bx h];rfl
 .rw[aY h]
  cases hl:j8 img k
  .rfl
  .rename_i l;simp only;cases hg:ZI l
   .rfl
   .rename_i f;exact Iv hg
theorem Zz (l:ak):(ints l).length=l.length:=by simp[ints]
theorem Zx7:(ints tR:ah)=List.replicate 16 (.i 0):=rfl
theorem MI (n:Nat) (img:aj) (k:Int) (st:St) (hl:img.length<1000000) (hn:600<=n:=by omega):
  Ok (λo=>∃s',o=(.val [.agg (ints ((gZ img k).getD tR)),.bool (gZ img k).isSome],s')/\aB st s') (run Bd n 289 [.str img,.i k] st):=by
 obtain⟨n,rfl⟩: ∃m,n=m+2:=⟨n-2,AC⟩;rw[Ze,h.ahr];unfold TE qV tt jN fF bj
 try dsimp only
 rw[bZ,au,ao,<-Zx7];by_cases h0:k=0
 .have e:gZ img k=some tR:=by grind[gZ]
  rw[h0,Ad,ae,Zd,<-h0,e];exact .mk ⟨st,rfl,.refl _⟩
 .have e:gZ img k=(match j8 img k with|none=>none|some l=>ZY l):=by grind[gZ]
  rw[dM.2 h0,af];refine Ok.call (Ip n img k st hl) ?_;rintro o ⟨s1,aH,ho⟩;rw[e];cases vu:j8 img k
  .rw[vu]at ho;simp only at ho;subst ho;refine⟨_,s1,rfl,?_⟩;rw[Zh 1 0 none _ (.inr rfl),ar,ao,bD,ae,Zd];exact .mk ⟨s1,rfl,aH⟩
  .rename_i l;rw[vu]at ho;obtain⟨p,rfl,hf,lI⟩:=ho;refine⟨_,s1,rfl,?_⟩;simp only[aZ,ar,ao];rw[bI,af];refine Ok.call (ZoL (n+1) p l s1 hf.1 lI AC) ?_;rintro o ⟨s2,bd,ho⟩;cases hg:ZY l
   .rw[hg]at ho;simp only at ho;subst ho;refine⟨_,s2,rfl,?_⟩;show Ok _ (bp [.agg (ints tR),.bool false] _ s2);rw[fh,ar,ao,bN (by rw[Zz];rfl),bN (by rw[Zz];rfl),Zd];exact .mk ⟨s2,rfl,aH.trans bd⟩
   .rename_i f;rw[hg]at ho;obtain⟨rfl,dZ⟩:=ho;refine⟨_,s2,rfl,?_⟩;rw[fh,ar,ao,bN (by rw[Zz];exact dZ),bN (by rw[Zz];exact dZ),Zd];exact .mk ⟨s2,rfl,aH.trans bd⟩
theorem ZlG (n:Nat) (img:aj) (k:Int) (st:St) (hl:img.length<1000000) (hn:600<=n:=by omega):
  Ok (λo=>∃s',o=(.val [.agg (bX ((lg img k).getD oQ)),.bool (lg img k).isSome],s')/\aB st s') (run Bd n 290 [.str img,.i k] st):=by
 obtain⟨n,rfl⟩: ∃m,n=m+2:=⟨n-2,AC⟩;rw[Ze,h.ahs];unfold Tx qV tt jN ZN fF bj
 try dsimp only
 rw[bZ,au,ao,<-Zrk];have P7: ∀ {f:List aX},f.length=7->(bX f).length=21:=λhf=>by rw[ZE,hf]
 by_cases h0:k=0
 .have e:lg img k=some oQ:=by grind[lg]
  rw[h0,Ad,ae,Zd,<-h0,e];exact .mk ⟨st,rfl,.refl _⟩
 .have e:lg img k=(match j8 img k with|none=>none|some l=>ZI l):=by grind[lg]
  rw[dM.2 h0,af];refine Ok.call (Ip n img k st hl) ?_;rintro o ⟨s1,aH,ho⟩;rw[e];cases vu:j8 img k
  .rw[vu]at ho;simp only at ho;subst ho;refine⟨_,s1,rfl,?_⟩;rw[Zh 1 0 none _ (.inr rfl),ar,ao,bD,ae,Zd];exact .mk ⟨s1,rfl,aH⟩
  .rename_i l;rw[vu]at ho;obtain⟨p,rfl,hf,lI⟩:=ho;refine⟨_,s1,rfl,?_⟩;simp only[aZ,ar,ao];rw[bI,af];refine Ok.call (ZnS (n+1) p l s1 hf.1 lI AC) ?_;rintro o ⟨s2,bd,ho⟩;cases hg:ZI l
   .rw[hg]at ho;simp only at ho;subst ho;refine⟨_,s2,rfl,?_⟩;rw[fh,ar,ao,bN (P7 rfl),bN (P7 rfl),Zd];exact .mk ⟨s2,rfl,aH.trans bd⟩
   .rename_i f;rw[hg]at ho;obtain⟨rfl,dZ⟩:=ho;refine⟨_,s2,rfl,?_⟩;rw[fh,ar,ao,bN (P7 dZ),bN (P7 dZ),Zd];exact .mk ⟨s2,rfl,aH.trans bd⟩
def nx (img:aj) (top:Int) (slot:Nat):Option aX:=match gZ img top with
 |none=>none
 |some f=>match gZ img (f.getD (slot/112) 0)with
  |none=>none
  |some g=>match lg img (g.getD (slot/7%16) 0)with
   |none=>none
   |some l=>l[slot%7]?
theorem UR {x:aX} (h:l[j]? =some x):((bX l).drop (j*3)).take 3=eZ x:=by
 obtain⟨A,B,rfl,hA⟩: ∃A B,l=A++x::B/\A.length=j:=by
  have⟨hj,hx⟩:=eE.1 h;exact⟨l.take j,l.drop (j+1),by rw[<-hx];simp,by rw[cB];omega⟩
 have e:bX (A++x::B)=bX A++(eZ x++bX B):=by rw[IV];rfl
 rw[e,QD (by rw[ZE,hA];omega),lx (by rw[ZE,hA];omega),gR];rfl
theorem Ao {l:ak} (h:j<l.length:=by omega):(ints l)[j]? =some (.i (l.getD j 0)):=by
 rw[ZJ h,cz,cc h];rfl
theorem Zr8 (n:Nat) (img:aj) (top:Int) (slot:Nat) (st:St) (hl:img.length<1000000) (hs:slot<1792) (hn:700<=n):
  Ok (λo=>∃s',o=(.val [.agg (eZ ((nx img top slot).getD gQ)),.bool (nx img top slot).isSome],s')/\aB st s') (run Bd n 267 [.str img,.i top,.i (slot:Int)] st):=by
 obtain _|n:=n;omega;rw[Ze,h.ahe];unfold Ti jx jN az fF tw Lb;simp only[bZ,au,ao];have afN:aq ((slot:Int).tdiv 112)=((slot/112:Nat):Int):=by
  rw[show(slot:Int).tdiv 112=((slot/112:Nat):Int)from rfl];exact Zb
 have e7:aq ((slot:Int).tdiv 7)=((slot/7:Nat):Int):=by
  rw[show(slot:Int).tdiv 7=((slot/7:Nat):Int)from rfl];exact Zb
 have XN:((slot/7:Nat):Int).tmod 16=((slot/7%16:Nat):Int):=rfl;have em7:(slot:Int).tmod 7=((slot%7:Nat):Int):=rfl;refine Ok.cv (MI n img top st hl) λs1 aH=>?_
 have dZ:=I6 img top;have⟨f,hf⟩: ∃f,(gZ img top).getD tR=f:=⟨_,rfl⟩;rw[hf]at dZ⊢;rw[fh,ar,ao,bN (by rw[Zz];exact dZ),bN (by rw[Zz];exact dZ),afN,e7,XN,em7];simp only[bn,cR];rw[Zc (show aO ((slot/112:Nat):Int) 16=true from Zi),iI (Ao),bg];refine Ok.cv (MI n img (f.getD (slot/112) 0) s1 hl) λs2 bd=>?_
 have kV:=I6 img (f.getD (slot/112) 0);have⟨g,hg⟩: ∃g,(gZ img (f.getD (slot/112) 0)).getD tR=g:=⟨_,rfl⟩;rw[hg]at kV⊢;rw[fh,ar,ao,bN (by rw[Zz];exact kV),bN (by rw[Zz];exact kV),Za];have bad:nx img top slot=none->Ok (λo=>∃s',o=(.val [.agg (eZ ((nx img top slot).getD gQ)),.bool (nx img top slot).isSome],s')/\aB st s') ((aw [.agg [.bool false,.i 0,.i 0],.bool false]:M ah) s2):=λhn=>by
  rw[hn,Zd];exact .mk ⟨s2,rfl,aH.trans bd⟩
 cases hF:gZ img top
 .rw[kT FS];simp only[ar,ao];rw[ae];refine bad ?_;unfold nx;rw[hF]
 .rename_i f';have YA:f'=f:=by rw[<-hf,hF];rfl
  subst YA;rw[pL FS];simp only[ar,ao];cases hG:gZ img (f'.getD (slot/112) 0)
  .rw[kT FS];refine bad ?_;unfold nx;rw[hF];simp only;rw[hG]
  .rename_i g';have vr:g'=g:=by rw[<-hg,hG];rfl
   subst vr;rw[pL FS,Zc (show aO ((slot/7%16:Nat):Int) 16=true from Zi),iI (Ao),bg];refine Ok.cv (ZlG n img (g'.getD (slot/7%16) 0) s2 hl) λs3 dh=>?_
   have fV:=NA img (g'.getD (slot/7%16) 0);have⟨l,Ht⟩: ∃l,(lg img (g'.getD (slot/7%16) 0)).getD oQ=l:=⟨_,rfl⟩;rw[Ht]at fV⊢;have hx:l[slot%7]? =some (l[slot%7]' AC):=Fd
   have Yo:=UR hx;rw[fh,ar,ao,bN (by rw[ZE,fV]),bN (by rw[ZE,fV]),Zc (show aO ((slot%7:Nat):Int) 7=true from Zi),Zc (gO AC),Yo,bN (show(eZ _).length=3 from rfl),Zd];refine .mk ⟨s3,?_,aH.trans (bd.trans dh)⟩;have Hj:nx img top slot=(match lg img (g'.getD (slot/7%16) 0)with|none=>none|some l=>l[slot%7]?):=by
    unfold nx;rw[hF];grind
   rw[Hj];cases hL:lg img (g'.getD (slot/7%16) 0)
   .have wG:l=oQ:=by rw[<-Ht,hL];rfl
    have h0:l[slot%7]' AC=gQ:=by
     subst wG;exact List.eq_of_mem_replicate (jj _)
    rw[h0];rfl
   .rename_i l';grind
def cI (acc:ak) (k:Int):ak:=bif k==0 then acc else acc++[k]
def nV (img:aj):ak->ak->Option (ak)
 |acc,[]=>some acc
 |acc,k::r=>match lg img k with
  |none=>none
  |some _=>nV img (cI acc k) r
def ql (img:aj):ak->ak->Option (ak)
 |acc,[]=>some acc
 |acc,k::r=>match gZ img k with
  |none=>none
  |some g=>match nV img (cI acc k) g with
   |none=>none
   |some sm=>ql img sm r
def yF (img:aj) (top:Int):Option (ak):=match gZ img top with
 |none=>none
 |some f=>ql img (cI [] top) f
def Mt (st:St) (R:Option (ak)) (o:Out ah×St):Prop:=∃s',aB st s'/\match R with
 |none=>o=(.val [.slice 0 none 0,.bool false],s')
 |some l=>∃p,o=(.val [.slice 1 p l.length,.bool true],s')/\Sl s' p (ints l)
theorem ZsI (acc:ak) (k:Int):(cI acc k).length<=acc.length+1:=by
 grind[cI]
theorem Nk (l:ak) (k:Int):ints (l++[k])=ints l++[.i k]:=by simp[ints]
theorem Jx {l:ak} (h:i<l.length:=by omega):l.drop i=l.getD i 0::l.drop (i+1):=by
 rw[iR h,cz,cc h];rfl
theorem Zqr (n:Nat) (img:aj) (top:Int) (st:St) (hl:img.length<1000000) (hn:700<=n):
  Ok (Mt st (yF img top)) (run Bd n 265 [.str img,.i top] st):=by
 obtain _|n:=n;omega;rw[Ze,h.ahc];unfold SL qV jN gj l9 fF vN fj bj Li
 try dsimp only
 rw[bZ,au,ao,Z8];refine Ok.cv (MI n img top st hl) λs1 aH=>?_
 have dZ:=I6 img top;have⟨f,hf⟩: ∃f,(gZ img top).getD tR=f:=⟨_,rfl⟩;rw[hf]at dZ⊢;rw[fh,ar,ao,bN (by rw[Zz];exact dZ),bN (by rw[Zz];exact dZ)];have⟨R,hR⟩: ∃R,yF img top=R:=⟨_,rfl⟩;rw[hR];have bad: ∀s',aB st s'->R=none->Ok (Mt st R) ((cw st.length [.slice 0 none 0,.bool false]:M ah) s'):=λs' hp hn=>by
  rw[hn,Zs];exact .mk ⟨_,Zx hp,rfl⟩
 cases hF:gZ img top
 .rw[kT FS];grind[yF]
 .rename_i f';have YA:f'=f:=by rw[<-hf,hF];rfl
  subst YA;have hRf:R=ql img (cI [] top) f':=by
   rw[<-hR];grind[yF]
  rw[pL FS];refine Ok.join λax sC=>?_
  have go: ∀(z:Nat) (p:ai) (s2:St),(z=1\/p=none)->bc st s2 p (ints (cI [] top))->Ok (Mt st R) (ax [.slice z p (cI [] top).length] s2):=λz p s2 hz ho=>by
   subst sC;simp only[Zh 1 z p _ hz,ao];refine Ok.join λaG mU=>?_
   refine Zj _ (λq y t=>∃(i z:Nat) (p:ai) (out:ak),y=[.slice z p out.length,.i i]/\(z=1\/p=none)/\i<=16/\16-i<=q/\bc st t p (ints out)/\out.length<=1+17*i/\R=ql img out (f'.drop i)) ?_ 16 n _ _ ⟨0,1,p,cI [] top,rfl,.inl rfl,AC,AC,ho,by have:=ZsI [] top;simp at this;omega,by rw[dF];exact hRf⟩ AC;rintro q y t ⟨i,z,p,out,rfl,hz,hi,hq,ho,iz,xE⟩ rec aN;rw[Zh 1 z p _ hz,au,ao];have j3: ∀l:ak,(ints l).length=l.length*1:=λl=>by rw[Zz,cR]
   by_cases av:i<16
   .have gr:=Jx (l:=f') (i:=i)
    have⟨k,hk⟩: ∃k,f'.getD i 0=k:=⟨_,rfl⟩;rw[hk]at gr;have wA:(ints f')[i]? =some (.i k):=by rw[<-hk];exact Ao
    rw[aR];refine Ok.join λaW oe=>?_
    rw[Zc (show aO (i:Int) 16=true from Zi av),bn,cR,iI wA,bg];refine Ok.cv (MI n img k t hl) λt1 bd=>?_
    have kV:=I6 img k;have⟨g,hg⟩: ∃g,(gZ img k).getD tR=g:=⟨_,rfl⟩;rw[hg]at kV⊢;rw[fh,ar,ao,bN (by rw[Zz];exact kV),bN (by rw[Zz];exact kV)];have sF:=ho.mono bd;rw[gr]at xE;cases hG:gZ img k
    .rw[kT FS];refine bad t1 sF.1 ?_;rw[xE];unfold ql;rw[hG]
    .rename_i g';have vr:g'=g:=by rw[<-hg,hG];rfl
     subst vr;have Ya:R=(match nV img (cI out k) g' with|none=>none|some sm=>ql img sm (f'.drop (i+1))):=by
      rw[xE]
      conv=>lhs;unfold ql
      rw[hG]
     rw[pL FS,Zc (show aO (i:Int) 16=true from Zi av),iI wA,bg];refine Ok.join λbG CW=>?_
     have XS: ∀(z:Nat) (p:ai) (s2:St),(z=1\/p=none)->bc st s2 p (ints (cI out k))->Ok (Mt st R) (bG [.slice z p (cI out k).length] s2):=λz p s2 hz ho=>by
      subst CW;simp only[Zh 1 z p _ hz,ao];refine Ok.join λcA CX=>?_
      have jT:=ZsI out k;refine Zj _ (λq y t=>∃(j z:Nat) (p:ai) (o:ak),y=[.slice z p o.length,.i j]/\(z=1\/p=none)/\j<=16/\16-j<=q/\bc st t p (ints o)/\o.length<=2+17*i+j/\nV img (cI out k) g'=nV img o (g'.drop j)) ?_ 16 n _ _ ⟨0,1,p,cI out k,rfl,.inl rfl,AC,AC,ho,AC,rfl⟩ AC;rintro q2 y2 u ⟨j,z2,p2,o2,rfl,iN,hj,HC,du,Hy,JU⟩ dP mW;rw[Zh 1 z2 p2 _ iN,au,ao];by_cases og:j<16
      .have ac0:=Jx (l:=g') (i:=j)
       have⟨w,hw⟩: ∃w,g'.getD j 0=w:=⟨_,rfl⟩;rw[hw]at ac0;have sA:(ints g')[j]? =some (.i w):=by rw[<-hw];exact Ao
       rw[aR,Zc (show aO (j:Int) 16=true from Zi og),bn,cR,iI sA,bg];refine Ok.cv (ZlG n img w u hl) λu1 dh=>?_
       have fV:=NA img w;rw[fh,ar,ao,bN (by rw[ZE,fV]),bN (by rw[ZE,fV])];have oL:=du.mono dh;rw[ac0]at JU;cases hL:lg img w
       .rw[kT FS];refine bad u1 oL.1 ?_;rw[Ya,JU];unfold nV;rw[hL]
       .rename_i l;have O3:nV img (cI out k) g'=nV img (cI o2 w) (g'.drop (j+1)):=by
         rw[JU]
         conv=>lhs;unfold nV
         rw[hL]
        rw[pL FS,Zc (show aO (j:Int) 16=true from Zi og),iI sA,bg,Za];by_cases Dc:w=0
        .have jS:cI o2 w=o2:=by unfold cI;rw[Dc];rfl
         rw[jS]at O3;rw[Dc,pL FS];simp only[aZ,ao];rw[Zb];exact mW (16-(j+1)) _ _ AC ⟨j+1,1,p2,o2,rfl,.inl rfl,AC,aJ _,oL,AC,O3⟩
        .have jS:cI o2 w=o2++[w]:=by unfold cI;rw[dM.2 Dc];rfl
         rw[jS]at O3;rw[dM.2 Dc,bD,ae,Zc (show aO (j:Int) 16=true from Zi og),iI sA,bg];have⟨p4,u4,ue,J8⟩:=oL.push (Y:=ah) (sz:=1) (n:=o2.length) (lim:=8796093022208) [.i w] AC (j3 o2) rfl AC;rw[J8];simp only[aZ,ao];rw[Zb];rw[<-Nk]at ue;exact mW (16-(j+1)) _ _ AC ⟨j+1,1,p4,o2++[w],by rw[ba,iS];rfl,.inl rfl,AC,aJ _,ue,by rw[ba,iS];omega,O3⟩
      .rw[aU,CX]
       simp only[aZ,ao];rw[oe];simp only[aZ,ao];rw[Zb];rw[lx AC]at JU;rw[JU]at Ya;exact aN (16-(i+1)) _ _ AC ⟨i+1,1,p2,o2,rfl,.inl rfl,AC,aJ _,du,AC,Ya⟩
     by_cases mV:k=0
     .have jS:cI out k=out:=by unfold cI;rw[mV];rfl
      rw[jS]at XS;rw[mV,pL FS];grind
     .have jS:cI out k=out++[k]:=by unfold cI;rw[dM.2 mV];rfl
      rw[jS]at XS;rw[dM.2 mV,bD,ae,Zc (show aO (i:Int) 16=true from Zi av),iI wA,bg];have⟨p4,u4,ue,J8⟩:=sF.push (Y:=ah) (sz:=1) (n:=out.length) (lim:=8796093022208) [.i k] AC (j3 out) rfl AC;rw[J8];rw[<-Nk]at ue;have:=XS 1 p4 u4 (.inl rfl) ue;rwa [ba,iS]at this
   .rw[aU,mU]
    simp only[aZ,ao,Zs];rw[lx AC]at xE;refine .mk ⟨_,Zx ho.1,?_⟩;rw[xE];exact⟨p,rfl,ho.sl.gk _⟩
  by_cases Da:top=0
  .have jS:cI [] top=[]:=by unfold cI;rw[Da];rfl
   rw[jS]at go;rw[Da,pL FS];exact go 0 none s1 (.inr rfl) (.nil aH)
  .have jS:cI [] top=[top]:=by unfold cI;rw[dM.2 Da];rfl
   rw[jS]at go;rw[dM.2 Da,bD,ae];have⟨p4,u4,ue,J8⟩:=(bc.nil aH).push (Y:=ah) (sz:=1) (n:=0) (lim:=8796093022208) [.i top] AC rfl rfl AC;rw[J8];exact go 1 p4 u4 (.inl rfl) ue
def vC (img:aj) (k:Int):Option jz:=match j8 img k with
 |none=>none
 |some l=>iy l
theorem Zr9 (n:Nat) (img:aj) (k:Int) (st:St) (hl:img.length<1000000) (hn:3002<=n):
  Ok (λo=>∃s',aB st s'/\match vC img k with
   |none=>∃z,o=(.val [.agg [.i 0,.i 0,.i 0,.i 0,.slice z none 0],.bool false],s')
   |some x=>∃q,o=(.val [.agg (pY x 1 q),.bool true],s')/\Sl s' q (ints x.kids)) (run Bd n 294 [.str img,.i k] st):=by
 obtain⟨n,rfl⟩: ∃m,n=m+2:=⟨n-2,AC⟩;rw[Ze,h.ahw];unfold Tz qV tt Gd fF BR bj FZ
 try dsimp only
 rw[bZ,au,ao,Z8];refine Ok.call (Ip n img k st hl) ?_;rintro o ⟨s1,aH,ho⟩;unfold vC;cases vu:j8 img k
 .rw[vu]at ho;simp only at ho;subst ho;refine⟨_,s1,rfl,?_⟩;rw[Zh 1 0 none _ (.inr rfl),ar,ao,bD,ae,Zs];exact .mk ⟨_,Zx aH,0,rfl⟩
 .rename_i l;rw[vu]at ho;obtain⟨p,rfl,hf,lI⟩:=ho;refine⟨_,s1,rfl,?_⟩;simp only[aZ,ar,ao];rw[bI,af];refine Ok.call (Zui (n+1) p l s1 hf.1 lI AC) ?_;rintro o ⟨s2,bd,ho⟩;cases hg:iy l
  .rw[hg]at ho;simp only at ho;subst ho;refine⟨_,s2,rfl,?_⟩;rw[fh];simp only[au,Zh 1 0 none _ (.inr rfl),ar,ao];rw[Zs];exact .mk ⟨_,Zx (aH.trans bd),1,rfl⟩
  .rename_i x;rw[hg]at ho;obtain⟨q,rfl,hq⟩:=ho;refine⟨_,s2,rfl,?_⟩;rw[fh];unfold pY fJ;simp only[oo,gR,au,aZ,ar,ao];rw[Zs];exact .mk ⟨_,Zx (aH.trans bd),q,rfl,hq.1.gk _⟩
def ko (img:aj):Nat->ak->aP->Option (List aP×ak)
 |0,_,_=>some ([],[])
 |j+1,ks,e=>match ko img j ks e with
  |none=>none
  |some (es,bs)=>match vC img (ks.getD j 0)with
   |none=>none
   |some m=>bif decide (m.kids.length=j)then(match ko img j m.kids m.br with
    |none=>none
    |some (eu,ik)=>bif eX e m.br then some (es++m.br::eu,bs++ks.getD j 0::ik)else none)else none
def mw (img:aj) (d:Nat) (k:Int):Option (List aP×ak):=match vC img k with
 |none=>none
 |some m=>bif decide (m.kids.length=d)then(match ko img d m.kids m.br with
  |none=>none
  |some (es,bs)=>some (m.br::es,k::bs))else none
theorem TR (img:aj) (j:Nat) (ks:ak) (e:aP):ko img (j+1) ks e=(match ko img j ks e with
  |none=>none
  |some (es,bs)=>match mw img j (ks.getD j 0)with
   |none=>none
   |some (fB,gv)=>bif eX e (fB.headD ⟨0,0,0,0⟩)then some (es++fB,bs++gv)else none):=by
 conv=>lhs;unfold ko
 cases ko img j ks e with
 |none=>rfl
 |some q=>
  grind[mw]
theorem ZnA {img:aj} {ks:ak} {e:aP} {i:Nat} (h:ko img i ks e=none): ∀d,i<=d->ko img d ks e=none
 |0,hd=>by
  grind
 |d+1,hd=>by
  by_cases hi:i=d+1
  .subst hi;exact h
  .rw[TR,ZnA h d AC]
theorem IL {img:aj} : ∀(j:Nat) (ks:ak) (e:aP) (es:List aP) (bs:ak),ko img j ks e=some (es,bs)->es.length+1=2^j/\bs.length=es.length
 |0,_,_,_,_,h=>by cases h;exact⟨rfl,rfl⟩
 |j+1,ks,e,es,bs,h=>by
  unfold ko at h;cases h1:ko img j ks e
  .rw[h1]at h;cases h
  .rename_i q;have⟨yQ,yK⟩:=q;have⟨a1,a2⟩:=IL j ks e yQ yK h1;rw[h1]at h;simp only at h;cases h2:vC img (ks.getD j 0)
   .rw[h2]at h;cases h
   .rename_i m;rw[h2]at h;simp only at h;cases h3:decide (m.kids.length=j)
    .rw[h3]at h;cases h
    .rw[h3,ae]at h;cases h4:ko img j m.kids m.br
     .rw[h4]at h;cases h
     .rename_i q;have⟨iE,xx⟩:=q;have⟨b1,b2⟩:=IL j m.kids m.br iE xx h4;rw[h4]at h;grind
theorem DW {k:Int} {bs:ak} (h:mw img d k=some (es,bs)):es.length=2^d/\bs.length=es.length:=by
 unfold mw at h;cases h2:vC img k
 .rw[h2]at h;cases h
 .rename_i m;rw[h2]at h;simp only at h;cases h3:decide (m.kids.length=d)
  .rw[h3]at h;cases h
  .rw[h3,ae]at h;cases h4:ko img d m.kids m.br
   .rw[h4]at h;cases h
   .rename_i q;have⟨iE,xx⟩:=q;have⟨b1,b2⟩:=IL d m.kids m.br iE xx h4;rw[h4]at h;grind
def Ie (st:St) (R:Option (List aP×ak)) (o:Out ah×St):Prop:=∃s',aB st s'/\match R with
 |none=>o=(.val [.slice 0 none 0,.slice 0 none 0,.bool false],s')
 |some (es,bs)=>∃p q,o=(.val [.slice 4 p es.length,.slice 1 q bs.length,.bool true],s')/\Sl s' p (bW es)/\Sl s' q (ints bs)/\(∀b∈aM q,st.length<=b)/\∀b∈aM p,st.length<=b
theorem NJ (l m:ak):ints (l++m)=ints l++ints m:=by simp[ints]
theorem bc.vb {a:ai} (h:bc s0 s a cs) {sz m:Nat} (hz:0<sz) (hn:cs.length=n*sz) (hd:ds.length=m*sz) (hl:n+m<=lim):
  ∃p s',bc s0 s' p (cs++ds)/\Fx (aM a) s s'/\(∀b∈aM p,b∈aM a\/s.length<=b)/\∀K:ai->M Y,cu sz a n ds m lim K s=K p s':=by
 rcases BF m with rfl|hm
 .rw[rU]at hd
  rw[z8.1 hd,fP];exact⟨a,s,h,⟨aJ _,λ_ _ _ e=>e⟩,λb hb=> .inl hb,λK=>rfl⟩
 .have hb:Nat.beq m 0=false:=by cases m with|zero=>cases hm|succ m=>rfl
  rcases h.2 with⟨rfl,rfl⟩|⟨i,rfl,hi,hs⟩
  .have h0:n=0:=by
    rcases H6.1 (show n*sz=0 by simpa using hn.symm)with h|h
    .exact h
    .omega
   subst h0;refine⟨some (s.length,0),s++[some ⟨false,ds⟩],⟨h.1.trans (.new _ _),.inr ⟨s.length,rfl,h.1.len,Do⟩⟩,⟨Do,Fd⟩,λb hb=> .inr (by rw[cH.1 hb];exact aJ _),λK=>?_⟩;unfold cu;rw[hb,gO hl,ae,af];rfl
  .have eD:s.iB i=some cs:=by grind[St.iB]
   refine⟨some (s.length,0),s.set i none++[some ⟨false,cs++ds⟩],⟨(tH h.1 hi none).trans (.new _ _),Fd⟩,⟨Do,λb x hbn e=>?_⟩,λb hb=> .inr (by rw[cH.1 hb];exact aJ _),λK=>?_⟩
   .have hbi:i≠b:=λe=>hbn (by rw[<-e];exact cH.2 rfl)
    grind
   .unfold cu
    simp only[hb,gO hl,ae,af,eD];rw[fq,gO AC];grind
theorem bc.yT {a:ai} (h:bc s0 s a cs) (k:Fx T s s') (hn: ∀b∈aM a,b∉T) (hp:aB s0 s'):bc s0 s' a cs:=by
 rcases h.2 with⟨rfl,rfl⟩|⟨i,rfl,hi,hs⟩
 .exact⟨hp,.inl ⟨rfl,rfl⟩⟩
 .exact⟨hp,.inr ⟨i,rfl,hi,k.2 i _ (hn i (cH.2 rfl)) hs⟩⟩
theorem bc.qJ {a:ai} (h:bc s0 s a cs): ∀b∈aM a,b<s.length:=λb hb=>by
 rcases h.2 with⟨rfl,rfl⟩|⟨i,rfl,hi,hs⟩
 .cases hb
 .rw[cH.1 hb]
  grind
theorem bc.JP {a:ai} (h:bc s0 s a cs): ∀b∈aM a,s0.length<=b:=λb hb=>by
 rcases h.2 with⟨rfl,rfl⟩|⟨i,rfl,hi,hs⟩
 .cases hb
 .rw[cH.1 hb]
  exact hi
theorem AE {a:ai} (h: ∀b∈aM a,b∉T):mG T a:=λb o e=>h b (by rw[e];exact cH.2 rfl)
theorem Sl.qJ {a:ai} (h:Sl s a cs): ∀b∈aM a,b<s.length:=λb hb=>by
 cases a with
 |none=>cases hb
 |some x=>
  have⟨i,o⟩:=x;rw[cH.1 hb];exact h.lt
theorem Zr0 (img:aj) (hl:img.length<1000000): ∀(d:Nat),d<=12->∀(n:Nat) (k:Int) (st:St),3100+d<=n->Ok (Ie st (mw img d k)) (run Bd n 271 [.str img,.i k,.i (d:Int)] st):=by
 intro d;induction d using Nat.strongRecOn with
 |_ d ih=>
 intro hd n k st hn;obtain _|n:=n;omega;rw[Ze,h.ahi];unfold Tq jx Gd az ck q9 Zo Gx xo bF fF tI Li Ah Lb BU;simp only[bZ,au,ao,Z8];refine Ok.call (Zr9 n img k st hl AC) ?_;rintro o ⟨s1,aH,ho⟩;have⟨R,hR⟩: ∃R,mw img d k=R:=⟨_,rfl⟩;rw[hR];have bad: ∀s',aB st s'->R=none->Ok (Ie st R) ((cw st.length [.slice 0 none 0,.slice 0 none 0,.bool false]:M ah) s'):=λs' hp hn=>by
  rw[hn,Zs];exact .mk ⟨_,Zx hp,rfl⟩
 unfold mw at hR;cases hN:vC img k
 .rw[hN]at ho hR;obtain⟨z,rfl⟩:=ho;refine⟨_,s1,rfl,?_⟩;rw[fh];simp only[au,Zh 1 z none _ (.inr rfl),ar,ao];rw[Za,bD,ae];simp only[ar,ao];rw[ae];exact bad s1 aH hR.symm
 .rename_i m;rw[hN]at ho hR;obtain⟨q,rfl,hq⟩:=ho;simp only at hR;refine⟨_,s1,rfl,?_⟩;rw[fh];unfold pY fJ;simp only[oo,gR,au,aZ,ar,ao];rw[Za,bI,af,pJ m.kids.length d (d:Int) rfl];simp only[ar,ao];by_cases Pp:m.kids.length=d
  .rw[aR Pp]at hR
   rw[aQ Pp,bI,af,ZD,ZD];have⟨s2,mo⟩: ∃s2,s1++[some (⟨false,[.i m.br.slot,.i m.br.gen,.i m.br.key,.i m.br.value]⟩:bQ)]=s2:=⟨_,rfl⟩;have⟨s3,xQ⟩: ∃s3,s2++[some (⟨false,[.i k]⟩:bQ)]=s3:=⟨_,rfl⟩;have bd:aB s1 s2:=by rw[<-mo];exact .new _ _
   have dh:aB s2 s3:=by rw[<-xQ];exact .new _ _
   have uf:bc st s3 (some (s1.length,0)) (bW [m.br]):=⟨aH.trans (bd.trans dh),.inr ⟨s1.length,rfl,aH.len,dh.get (by rw[<-mo];simp[bW,fJ])⟩⟩;have sG:bc st s3 (some (s2.length,0)) (ints [k]):=⟨aH.trans (bd.trans dh),.inr ⟨s2.length,rfl,by have:=aH.len;have:=bd.len;omega,by rw[<-xQ];simp[ints]⟩⟩;rw[mo,xQ];have cV:s1.length<s2.length:=by rw[<-mo];simp
   refine Ok.join λaG mU=>?_
   refine Zj _ (λc y t=>∃(i:Nat) (pe pb:ai) (es:List aP) (bs:ak),y=[.slice 4 pe (es.length+1),.slice 1 pb (bs.length+1),.i (i:Int)]/\i<=d/\d-i<=c/\ko img i m.kids m.br=some (es,bs)/\bc st t pe (bW (m.br::es))/\bc st t pb (ints (k::bs))/\(∀b∈aM pe,s1.length<=b/\b∉aM pb)/\(∀b∈aM pb,s1.length<=b)/\Sl t q (ints m.kids)/\s1.length<=t.length) ?_ d n _ _ ⟨0,some (s1.length,0),some (s2.length,0),[],[],rfl,cN _,AC,rfl,uf,sG,λb hb=>⟨by rw[cH.1 hb];exact aJ _,by rw[cH.1 hb];intro e;have:=cH.1 e;omega⟩,λb hb=>by rw[cH.1 hb];omega,(hq.mono bd).mono dh,by have:=bd.len;have:=dh.len;omega⟩ AC;have xO:=hq.qJ;rintro c y t ⟨i,pe,pb,es,bs,rfl,hi,hc,hT,uf,sG,PG,hpb,KR,dR⟩ rec aN;simp only[aZ,au,ao];have hlen:=IL i m.kids m.br es bs hT;have sI:2^i<=2^12:=pB EQ AC;by_cases av:i<d
   .have⟨w,hw⟩: ∃w,m.kids.getD i 0=w:=⟨_,rfl⟩
    have sA:(ints m.kids)[i]? =some (.i w):=by rw[<-hw];exact Ao
    obtain⟨i1,o1,rfl⟩:=KR.cS (by rw[Zz];omega);rw[aR,bh,Zc (Zi),bn,KR.dX sA,bg];have sL:=TR img i m.kids m.br;rw[hT,hw]at sL;simp only at sL;refine Ok.call (ih i av AC n w t AC) ?_;rintro o ⟨t1,j4,ho⟩;have KG:=uf.mono j4;have aae:=sG.mono j4;have fail:ko img (i+1) m.kids m.br=none->Ok (Ie st R) ((cw st.length [.slice 0 none 0,.slice 0 none 0,.bool false]:M ah) t1):=λhf=>by
     refine bad t1 KG.1 ?_;rw[<-hR,ZnA hf d AC]
    cases hS:mw img i w
    .rw[hS]at ho sL;simp only at ho;subst ho;refine⟨_,t1,rfl,?_⟩;rw[Zh 4 0 none _ (.inr rfl),Zh 1 0 none _ (.inr rfl),ar,ao,Za,bD,ae];simp only[ar,ao];rw[ae];exact fail sL
    .rename_i qq;have⟨fB,gv⟩:=qq;rw[hS]at ho sL;obtain⟨px,py,rfl,KN,hpy,aat,_⟩:=ho;refine⟨_,t1,rfl,?_⟩;have fM:=DW hS;obtain⟨e0,Bk,rfl⟩: ∃e0 Bk,fB=e0::Bk:=by
      cases fB with
      |nil=>have:=fM.1;rw[Aa]at this;omega
      |cons a b=>exact⟨a,b,rfl⟩
     simp only[aZ,ar,ao];rw[Za,bI,af];obtain⟨i4,o4,rfl⟩:=KN.cS (by rw[Zt,cQ];omega);rw[bh,Zc (show aO 0 (e0::Bk).length=true from Zi (i:=0) Do),KN.yU (k:=0) (n:=4) (by rw[Zt,cQ];omega)];show Ok _ (aC .i64 (fJ e0) _ t1);unfold fJ;simp only[au,ao];have Hc:=Se (n-1) m.br e0 t1;rw[show n-1+1=n by omega]at Hc;unfold fJ at Hc;rw[Zk Hc];simp only[ar,ao];simp only[List.headD_cons]at sL;cases hA:eX m.br e0
     .rw[hA,af]at sL;rw[bD,ae];exact fail sL
     .rw[hA,ae]at sL;rw[bI,af];have r1: ∀K:ah->M ah,dV (some (i4,o4)) ((e0::Bk).length*4) K t1=K (bW (e0::Bk)) t1:=λK=>by
       have:=j9 KN K;rwa [Zt]at this
      rw[r1];have⟨p5,t5,rE,od,Eu,J9⟩:=KG.vb (Y:=ah) (sz:=4) (n:=es.length+1) (m:=(e0::Bk).length) (lim:=2199023255552) (ds:=bW (e0::Bk)) AC (by rw[Zt];rfl) (by rw[Zt]) AC;rw[J9];have rG:=j4.len;have aal:=uf.qJ;have ajD:=sG.qJ;have aas:Sl t5 py (ints gv):=hpy.fx od (AE λb hb cZ=>by have:=aat b hb;have:=aal b cZ;omega);have r2: ∀K:ah->M ah,dV py (gv.length*1) K t5=K (ints gv) t5:=λK=>by
       have:=j9 aas K;rwa [Zz,<-cR gv.length]at this
      rw[r2];have aaf:bc st t5 pb (ints (k::bs)):=aae.yT od Fd rE.1;have⟨p6,t6,nA,sy,yY,vq⟩:=aaf.vb (Y:=ah) (sz:=1) (n:=bs.length+1) (m:=gv.length) (lim:=8796093022208) (ds:=ints gv) AC (by rw[Zz,cR];rfl) (by rw[Zz,cR]) AC;rw[vq];have aak: ∀b∈aM p5,b∉aM pb:=λb hb cZ=>by
       grind
      have Py:bc st t6 p5 (bW (m.br::es)++bW (e0::Bk)):=rE.yT sy aak nA.1;rw[Zb];refine aN (d-(i+1)) _ _ AC ⟨i+1,p5,p6,es++e0::Bk,bs++gv,?_,AC,aJ _,sL,?_,?_,λb hb=>⟨?_,λcZ=>?_⟩,λb hb=>?_,?_,by have:=od.1;have:=sy.1;omega⟩
      .grind
      .rw[<-Aq]at Py;exact Py
      .rw[<-NJ]at nA;exact nA
      .rcases Eu b hb with h1|h1
       .exact(PG b h1).1
       .omega
      .have h5l:=rE.qJ b hb
       grind
      .rcases yY b hb with h1|h1
       .exact hpb b h1
       .have:=od.1;omega
      .exact((KR.mono j4).fx od (AE λb hb cZ=>by have:=xO b hb;have:=(PG b cZ).1;omega)).fx sy (AE λb hb cZ=>by have:=xO b hb;have:=hpb b cZ;omega)
   .rw[aU,mU]
    have hid:i=d:=AC
    subst hid;rw[hT]at hR;simp only[aZ,ao,Zs];refine .mk ⟨_,Zx uf.1,?_⟩;rw[<-hR];exact⟨pe,pb,rfl,uf.sl.gk _,sG.sl.gk _,sG.JP,uf.JP⟩
  .rw[aU Pp]at hR
   rw[bP Pp,bD,ae];exact bad s1 aH hR.symm
def mP (img:aj):Nat->ak->List aP->ak->Option (List aP×ak)
 |_,[],es,bs=>some (es,bs)
 |i,k::r,es,bs=>bif k==0 then mP img (i+1) r es bs else match mw img i k with
  |none=>none
  |some (fB,gv)=>mP img (i+1) r (es++fB) (bs++gv)
def wc (img:aj) (r:ak):Option (List aP×ak):=mP img 0 r [] []
theorem Zpa (n:Nat) (img:aj) (r:ak) (st:St) (hl:img.length<1000000) (hr:r.length=12) (hn:3200<=n):
  Ok (Ie st (wc img r)) (run Bd n 246 [.str img,.agg (ints r)] st):=by
 obtain _|n:=n;omega;rw[Ze,h.agV];unfold RU ck q9 Gx Ah tI
 try dsimp only
 rw[bZ,fh,bN (by rw[Zz];exact hr),ao,Z8,bN (by rw[Zz];exact hr)];have⟨R,hR⟩: ∃R,wc img r=R:=⟨_,rfl⟩;rw[hR];have bad: ∀s',aB st s'->R=none->Ok (Ie st R) ((cw st.length [.slice 0 none 0,.slice 0 none 0,.bool false]:M ah) s'):=λs' hp hn=>by
  rw[hn,Zs];exact .mk ⟨_,Zx hp,rfl⟩
 refine Ok.join λax sC=>?_
 refine Zj _ (λc y t=>∃(i z1 z2:Nat) (pe pb:ai) (es:List aP) (bs:ak),y=[.slice z1 pe es.length,.slice z2 pb bs.length,.i (i:Int)]/\(z1=4\/pe=none)/\(z2=1\/pb=none)/\i<=12/\12-i<=c/\R=mP img i (r.drop i) es bs/\bc st t pe (bW es)/\bc st t pb (ints bs)/\(∀b∈aM pe,b∉aM pb)/\es.length+1<=2^i/\bs.length=es.length) ?_ 12 n _ _ ⟨0,0,0,none,none,[],[],rfl,.inr rfl,.inr rfl,AC,AC,by rw[dF];exact hR.symm,.nil (.refl _),.nil (.refl _),λb hb=>(by cases hb),Do,rfl⟩ AC;rintro c y t ⟨i,z1,z2,pe,pb,es,bs,rfl,kD,iN,hi,hc,xE,uf,sG,PG,hel,js⟩ rec aN;rw[Zh 4 z1 pe _ kD,Zh 1 z2 pb _ iN,au,ao];have sI:2^i<=2^12:=pB EQ AC;by_cases av:i<12
 .have gr:=Jx (l:=r) (i:=i)
  have⟨k,hk⟩: ∃k,r.getD i 0=k:=⟨_,rfl⟩;rw[hk]at gr;have wA:(ints r)[i]? =some (.i k):=by rw[<-hk];exact Ao
  rw[gr]at xE;rw[aR,Za,Zc (show aO (i:Int) 12=true from Zi av)];simp only[bn,cR];rw[iI wA,bg];by_cases mV:k=0
  .have O2:R=mP img (i+1) (r.drop (i+1)) es bs:=by
    rw[xE]
    conv=>lhs;unfold mP
    rw[mV];rfl
   rw[mV,Ad,ae];simp only[aZ,ao];rw[Zb];exact aN (12-(i+1)) _ _ AC ⟨i+1,4,1,pe,pb,es,bs,rfl,.inl rfl,.inl rfl,AC,aJ _,O2,uf,sG,PG,AC,js⟩
  .have AS:R=(match mw img i k with|none=>none|some (fB,gv)=>mP img (i+1) (r.drop (i+1)) (es++fB) (bs++gv)):=by
    rw[xE]
    conv=>lhs;unfold mP
    rw[dM.2 mV];rfl
   rw[dM.2 mV,af,Zc (show aO (i:Int) 12=true from Zi av),iI wA,bg];refine Ok.call (Zr0 img hl i AC n k t AC) ?_;rintro o ⟨t1,j4,ho⟩;have KG:=uf.mono j4;have aae:=sG.mono j4;cases hS:mw img i k
   .rw[hS]at ho AS;simp only at ho;subst ho;refine⟨_,t1,rfl,?_⟩;rw[Zh 4 0 none _ (.inr rfl),Zh 1 0 none _ (.inr rfl),ar,ao,bD,ae];exact bad t1 KG.1 AS
   .rename_i qq;have⟨fB,gv⟩:=qq;rw[hS]at ho AS;obtain⟨px,py,rfl,KN,hpy,aat,_⟩:=ho;refine⟨_,t1,rfl,?_⟩;have fM:=DW hS;simp only[aZ,ar,ao];rw[bI,af];have r1: ∀K:ah->M ah,dV px (fB.length*4) K t1=K (bW fB) t1:=λK=>by
     have:=j9 KN K;rwa [Zt]at this
    rw[r1];have⟨p5,t5,rE,od,Eu,J9⟩:=KG.vb (Y:=ah) (sz:=4) (n:=es.length) (m:=fB.length) (lim:=2199023255552) (ds:=bW fB) AC (by rw[Zt]) (by rw[Zt]) AC;rw[J9];have rG:=j4.len;have aal:=uf.qJ;have ajD:=sG.qJ;have aas:Sl t5 py (ints gv):=hpy.fx od (AE λb hb cZ=>by have:=aat b hb;have:=aal b cZ;omega);have r2: ∀K:ah->M ah,dV py gv.length K t5=K (ints gv) t5:=λK=>by
     have:=j9 aas K;rwa [Zz]at this
    rw[r2];have aaf:bc st t5 pb (ints bs):=aae.yT od Fd rE.1;have⟨p6,t6,nA,sy,yY,vq⟩:=aaf.vb (Y:=ah) (sz:=1) (n:=bs.length) (m:=gv.length) (lim:=8796093022208) (ds:=ints gv) AC (by rw[Zz,cR]) (by rw[Zz,cR]) AC;rw[vq];have aak: ∀b∈aM p5,b∉aM pb:=λb hb cZ=>by
     grind
    have Py:bc st t6 p5 (bW es++bW fB):=rE.yT sy aak nA.1;rw[Zb];refine aN (12-(i+1)) _ _ AC ⟨i+1,4,1,p5,p6,es++fB,bs++gv,?_,.inl rfl,.inl rfl,AC,aJ _,AS,?_,?_,λb hb cZ=>?_,?_,?_⟩
    .rw[ba,ba]
     rfl
    .rw[Aq];exact Py
    .rw[NJ];exact nA
    .have h5l:=rE.qJ b hb
     grind
    .rw[ba];omega
    grind
 .rw[aU,sC]
  rw[lx AC]at xE;simp only[aZ,ao,Zs];refine .mk ⟨_,Zx uf.1,?_⟩;rw[xE];exact⟨pe,pb,rfl,uf.sl.gk _,sG.sl.gk _,sG.JP,uf.JP⟩
def sU (e:aP) (out:List aP):Nat->Nat
 |0=>0
 |k+1=>bif eX e (out.getD k ⟨0,0,0,0⟩)then sU e out k else k+1
def rH (out:List aP) (e:aP):List aP:=out.take (sU e out out.length)++e::out.drop (sU e out out.length)
def kt (l:List aP):List aP:=l.foldl rH []
theorem ZvF (e:aP) (out:List aP): ∀k,sU e out k<=k
 |0=>aJ _
 |k+1=>by
  unfold sU;cases eX e (out.getD k ⟨0,0,0,0⟩)
  .exact aJ _
  .exact Nat.le_succ_of_le (ZvF e out k)
theorem VT (out:List aP) (e:aP):(rH out e).length=out.length+1:=by
 grind[rH]
theorem Zxq (e:aP):bW [e]=fJ e:=by unfold bW;simp
theorem Zwb (l:List aP) (k:Nat):bW (l.take k)=(bW l).take (k*4):=by
 rcases Nat.le_total k l.length with h|h
 .have h2:=Aq (l.take k) (l.drop k)
  rw[mD]at h2;have h3:(bW (l.take k)).length=k*4:=by rw[Zt,cB];omega
  rw[h2,<-h3];simp
 .rw[dG h,dG (by rw[Zt];omega)]
theorem ZvU (l:List aP) (k:Nat):bW (l.drop k)=(bW l).drop (k*4):=by
 rcases Nat.le_total k l.length with h|h
 .have h2:=Aq (l.take k) (l.drop k)
  rw[mD]at h2;have h3:(bW (l.take k)).length=k*4:=by rw[Zt,cB];omega
  rw[h2,<-h3];simp
 .rw[lx h,lx (by rw[Zt];omega)]
  rfl
theorem ZoX (n:Nat) (l:List aP) (z:Nat) (p:ai) (st:St) (hz:z=4\/p=none) (hs:Sl st p (bW l)) (hl:l.length<100000) (hn:l.length+10<=n):
  Ok (λo=>∃q s',o=(.val [.slice 4 q (kt l).length],s')/\aB st s'/\Sl s' q (bW (kt l))/\∀b∈aM q,st.length<=b) (run Bd n 247 [.slice z p l.length] st):=by
 obtain⟨n,rfl⟩: ∃m,n=m+2:=⟨n-2,AC⟩;rw[Ze,h.agW];unfold RN DK cT qg N_ xo dj az bF tx Li BU Lb jy
 try dsimp only
 rw[Zh 4 z p _ hz,ao,Z8];refine Ok.join λax sC=>?_
 refine Zj _ (λc y t=>∃(i z1:Nat) (po:ai) (out:List aP),y=[.slice z1 po out.length,.i (i:Int)]/\(z1=4\/po=none)/\i<=l.length/\l.length-i<=c/\aB st t/\Sl t po (bW out)/\out=(l.take i).foldl rH []/\out.length=i/\∀b∈aM po,st.length<=b) ?_ l.length (n+1) _ _ ⟨0,0,none,[],rfl,.inr rfl,cN _,AC,.refl _,Sl.nil _,rfl,rfl,λb hb=>by cases hb⟩ AC;rintro c y t ⟨i,z1,po,out,rfl,kD,hi,hc,j4,wJ,EN,iz,ajG⟩ rec aN;rw[Zh 4 z1 po _ kD,au,ao];by_cases av:i<l.length
 .obtain⟨i1,o1,rfl⟩:=hs.cS (by rw[Zt];omega)
  have da:l[i]? =some l[i]:=cc av;have hY:l.take (i+1)=l.take i++[l[i]]:=oq av;generalize l[i]=e at da hY;have cq:=hs.mono j4;have lde: ∀(K:ah->M ah) (u:St),Sl u (some (i1,o1)) (bW l)->bV i1 (i*4+o1) 4 K u=K (fJ e) u:=λK u hu=>by
   rw[hu.yU (k:=i*4) (n:=4) (by rw[Zt];omega),Gf da]
  have ajw:(l.take (i+1)).foldl rH []=rH out e:=by rw[hY,wZ,<-EN];rfl
  rw[aR];refine Ok.join λaG mU=>?_
  refine Ok.join λaW oe=>?_
  refine Zj _ (λc y u=>∃k:Nat,y=[.i (k:Int)]/\k<=out.length/\k<=c/\u=t/\sU e out out.length=sU e out k) ?_ out.length (n+1) _ _ Fd AC;rintro c2 y2 u ⟨k,rfl,hk,jC,rfl,xN⟩ dP mW;rw[au,ao];have fin:sU e out out.length=k->Ok (λo=>∃q s',o=(.val [.slice 4 q (kt l).length],s')/\aB st s'/\Sl s' q (bW (kt l))/\∀b∈aM q,st.length<=b) (aW [.i (k:Int)] u):=λhp=>by
   subst oe;simp only[au,ao,bn];rw[Zc (by rw[aS,bq,bq];omega)];have h1:=wJ.mu (k*4);have AP:((bW out).take (k*4)).length=k*4:=by rw[cB,Zt];omega
   have e1: ∀K:ah->M ah,dV po (k*4) K u=K ((bW out).take (k*4)) u:=λK=>by
    have:=j9 h1 K;rwa [AP]at this
   rw[e1];have⟨r1,s1,sF,Yu⟩:=(bc.nil (aB.refl u)).Ow (Y:=ah) (sz:=4) (n:=0) (m:=k) (lim:=2199023255552) (ds:=(bW out).take (k*4)) AC rfl AP AC;rw[Yu,gR]at*
   rw[bh,Zc (Zi av),lde _ s1 (cq.mono sF.1)];unfold fJ;simp only[au,ao];have⟨r2,s2,du,ze⟩:=sF.push (Y:=ah) (sz:=4) (n:=0+k) (lim:=2199023255552) [.i e.slot,.i e.gen,.i e.key,.i e.value] AC (by rw[AP];omega) rfl AC;rw[ze,Zc (by rw[aS,bq,bq];omega)];have h2:=(wJ.mono du.1).cY (k:=k*4) (by rw[Zt];omega);have AQ:((bW out).drop (k*4)).length=(out.length-k)*4:=by rw[dY,Zt];omega
   have e2: ∀K:ah->M ah,dV (cY true po (k*4)) ((out.length-k)*4) K s2=K ((bW out).drop (k*4)) s2:=λK=>by
    have:=j9 h2 K;rwa [AQ]at this
   rw[e2];have⟨r3,s3,oL,Yv⟩:=du.Ow (Y:=ah) (sz:=4) (n:=0+k+1) (m:=out.length-k) (lim:=2199023255552) (ds:=(bW out).drop (k*4)) AC (by rw[ba,AP];simp;omega) AQ AC;rw[Yv,mU];simp only[aZ,ao];have fA:(bW out).take (k*4)++[.i e.slot,.i e.gen,.i e.key,.i e.value]++(bW out).drop (k*4)=bW (rH out e):=by
    unfold rH;rw[hp,Aq,Zwb,show e::out.drop k=[e]++out.drop k from rfl,Aq,Zxq,ZvU,dL];rfl
   rw[fA]at oL;rw[Zb];refine aN (l.length-(i+1)) _ _ AC ⟨i+1,4,r3,rH out e,?_,.inl rfl,AC,aJ _,j4.trans oL.1,oL.sl,ajw.symm,by rw[VT,iz],λb hb=>ij j4.len (oL.JP b hb)⟩;rw[VT,show 0+k+1+(out.length-k)=out.length+1 by omega];rfl
  rw[Za];cases k with
  |zero=>
   rw[aU];simp only[ar,ao,af];exact fin xN
  |succ k=>
   rw[aR,bh,Zc (Zi av),bn,lde _ u cq];unfold fJ;simp only[au,ao];obtain⟨i5,o5,rfl⟩:=wJ.cS (by rw[Zt];omega);have aL:out[k]? =some (out.getD k ⟨0,0,0,0⟩):=by
    rw[cz,cc (AC:k<out.length)];rfl
   have jS:sU e out (k+1)=bif eX e (out.getD k ⟨0,0,0,0⟩)then sU e out k else k+1:=rfl;generalize out.getD k ⟨0,0,0,0⟩=f at aL jS;have K7:aq (((k+1:Nat):Int)-1)=(k:Int):=by rw[Zb];omega
   rw[K7,bh,Zc (Zi),bn,wJ.yU (k:=k*4) (n:=4) (by rw[Zt];omega),Gf aL];unfold fJ;simp only[au,ao];have Hc:=Se n e f u;unfold fJ at Hc;rw[Zk Hc];simp only[ar,ao];grind
 .rw[aU,sC]
  simp only[aZ,ao,Zs];rw[dG AC]at EN;have hss:out=kt l:=EN;rw[hss]at wJ⊢;exact .mk ⟨po,_,rfl,Zx j4,wJ.gk _,ajG⟩
def vE (l:List ZL):ah:=(l.map Z0).flatten
def Ia (l:List ZL):Prop:=∀x∈l,x.cF.length=12/\x.name.length<=28
theorem BY {x:ZL} (h:x.cF.length=12):(Z0 x).length=14:=by
 simp[Z0,cQ,Zz,h]
theorem Js: ∀ {l:List ZL},Ia l->(vE l).length=l.length*14
 |[],_=>rfl
 |x::l,h=>by
  have h1:=BY (h x pz).1;have h2:=Js (l:=l) λy hy=>h y (tj _ hy)
  show(Z0 x++vE l).length=_;rw[ba,h1,h2,cQ];omega
theorem Ob: ∀ {l:List ZL},Ia l->∀ {j:Nat} {x:ZL},l[j]? =some x->∀k,k<14->(vE l)[j*14+k]? =(Z0 x)[k]?
 |[],_,_,_,h,_,_=>by cases h
 |y::l,hq,j,x,h,k,hk=>by
  have h1:=BY (hq y pz).1;show(Z0 y++vE l)[j*14+k]? =_;cases j with
  |zero=>
   grind
  |succ j=>
   rw[kO AC,h1,show(j+1)*14+k-14=j*14+k by omega];exact Ob (λz hz=>hq z (tj _ hz)) (by simpa using h) k hk
theorem Zzd (l:List ZL) (x:ZL):vE (l++[x])=vE l++Z0 x:=by unfold vE;simp
def xW (qs:List ZL) (q:ZL):Bool:=match qs.getLast? with
 |none=>true
 |some p=>decide (cmpL (dK p.name) (dK q.name)<0)
def nJ (img:aj):List ZL->ak->Option (List ZL)
 |qs,[]=>some qs
 |qs,k::r=>match j8 img k with
  |none=>none
  |some c=>match ZH c with
   |none=>none
   |some q=>bif xW qs q then nJ img (qs++[q]) r else none
def wO (img:aj) (dir:Int):Option (List ZL×ak):=if dir=0 then some ([],[])else match j8 img dir with
 |none=>none
 |some b=>match kl b with
  |none=>none
  |some l=>match nJ img [] l with
   |none=>none
   |some qs=>some (qs,dir::l)
def Mw (st:St) (R:Option (List ZL×ak)) (o:Out ah×St):Prop:=∃s',aB st s'/\match R with
 |none=>o=(.val [.slice 0 none 0,.slice 0 none 0,.bool false],s')
 |some (qs,bs)=>∃z p z2 q,o=(.val [.slice z p qs.length,.slice z2 q bs.length,.bool true],s')/\(z=14\/p=none)/\(z2=1\/q=none)/\Sl s' p (vE qs)/\Sl s' q (ints bs)/\Ia qs/\qs.length<=16/\bs.length<=17
theorem Zsm (n:Nat) (img:aj) (dir:Int) (st:St) (hl:img.length<1000000) (hn:3100<=n):
  Ok (Mw st (wO img dir)) (run Bd n 245 [.str img,.i dir] st):=by
 obtain⟨n,rfl⟩: ∃m,n=m+2:=⟨n-2,AC⟩;rw[Ze,h.agU];unfold Ts qV tt cT Zo jN az cK tI fF bj Li Lb jy
 try dsimp only
 rw[bZ,au,ao,Z8];have⟨R,hR⟩: ∃R,wO img dir=R:=⟨_,rfl⟩;rw[hR];have bad: ∀s',aB st s'->R=none->Ok (Mw st R) ((cw st.length [.slice 0 none 0,.slice 0 none 0,.bool false]:M ah) s'):=λs' hp hn=>by
  rw[hn,Zs];exact .mk ⟨_,Zx hp,rfl⟩
 unfold wO at hR;by_cases h0:dir=0
 .rw[bx h0]at hR
  rw[h0,Ad,ae,Zs];refine .mk ⟨_,Zx (.refl st),?_⟩;rw[<-hR];exact⟨0,none,0,none,rfl,.inr rfl,.inr rfl,Sl.nil _,Sl.nil _,λx hx=>(by cases hx),Do,Do⟩
 rw[aY h0]at hR;rw[dM.2 h0,af];refine Ok.call (Ip n img dir st hl) ?_;rintro o ⟨s1,aH,ho⟩;cases vu:j8 img dir with
 |none=>
  rw[vu]at ho hR;simp only at ho;subst ho;refine⟨_,s1,rfl,?_⟩;rw[Zh 1 0 none _ (.inr rfl),ar,ao,bD,ae];exact bad s1 aH hR.symm
 |some b=>
 rw[vu]at ho hR;obtain⟨p,rfl,hf,lI⟩:=ho;simp only at hR;refine⟨_,s1,rfl,?_⟩;rw[aZ,ar,ao,bI,af];refine Ok.call (ZpH (n+1) p b s1 hf.1 lI AC) ?_;rintro o ⟨s2,bd,ho⟩;have sI:=aH.trans bd;cases hg:kl b with
 |none=>
  rw[hg]at ho hR;simp only at ho;subst ho;refine⟨_,s2,rfl,?_⟩;rw[Zh 1 0 none _ (.inr rfl),ar,ao,bD,ae];exact bad s2 sI hR.symm
 |some l=>
 rw[hg]at ho hR;obtain⟨pl,rfl,dR,fV⟩:=ho;simp only at hR;refine⟨_,s2,rfl,?_⟩;rw[aZ,ar,ao,bI,af];refine Ok.join λax sC=>?_
 have ajF:=dR.qJ;refine Zj _ (λc y t=>∃(i z:Nat) (pq:ai) (qs:List ZL),y=[.slice z pq qs.length,.i (i:Int)]/\(z=14\/pq=none)/\i<=l.length/\l.length-i<=c/\bc st t pq (vE qs)/\Ia qs/\qs.length=i/\nJ img [] l=nJ img qs (l.drop i)/\Sl t pl (ints l)/\(∀b∈aM pq,s2.length<=b)/\s2.length<=t.length) ?_ l.length (n+1) _ _ ⟨0,0,none,[],rfl,.inr rfl,cN _,AC,.nil sI,λx hx=>(by cases hx),rfl,by rw[dF],dR,λb hb=>(by cases hb),aJ _⟩ AC;rintro c y t ⟨i,z,pq,qs,rfl,hz,hi,hc,gW,wu,xO,KQ,PT,hpq,K0⟩ rec aN;rw[Zh 14 z pq _ hz,au,ao];by_cases av:i<l.length
 .have gr:=Jx (l:=l) (i:=i) av
  have⟨k,hk⟩: ∃k,l.getD i 0=k:=⟨_,rfl⟩;rw[hk]at gr;have wA:(ints l)[i]? =some (.i k):=by rw[<-hk];exact Ao av
  obtain⟨i1,o1,rfl⟩:=PT.cS (by rw[Zz];omega);rw[aR,bh,Zc (Zi av),bn,PT.dX wA,bg];rw[gr]at KQ;have fail: ∀u,aB st u->nJ img qs (k::l.drop (i+1))=none->Ok (Mw st R) ((cw st.length [.slice 0 none 0,.slice 0 none 0,.bool false]:M ah) u):=λu hu hf=>by
   refine bad u hu ?_;rw[KQ,hf]at hR;exact hR.symm
  refine Ok.call (Ip n img k t hl) ?_;rintro o ⟨t1,j4,ho⟩;have Hz:=gW.mono j4;cases Kq:j8 img k
  .rw[Kq]at ho;simp only at ho;subst ho;refine⟨_,t1,rfl,?_⟩;rw[Zh 1 0 none _ (.inr rfl),ar,ao,bD,ae];exact fail t1 Hz.1 (by unfold nJ;rw[Kq])
  .rename_i cb;rw[Kq]at ho;obtain⟨pc,rfl,Pf,aie⟩:=ho;refine⟨_,t1,rfl,?_⟩;rw[aZ,ar,ao,bI,af];refine Ok.call (ZsO (n+1) pc cb t1 Pf.1 aie AC) ?_;rintro o ⟨t2,aao,ho⟩;have sH:=Hz.mono aao;cases Pm:ZH cb
   .rw[Pm]at ho;simp only at ho;subst ho;refine⟨_,t2,rfl,?_⟩;rw[fh];have G3:(ints Eh.cF).length=12:=rfl;unfold Z0;rw[bZ,au,bN G3,ar,ao,bN (by rw[cQ,cQ,G3]),Za,bD,ae];simp only[ar,ao];rw[ae];exact fail t2 sH.1 (by unfold nJ;rw[Kq];simp only;rw[Pm])
   .rename_i q;rw[Pm]at ho;obtain⟨rfl,zw⟩:=ho;have PL:q.name.length<=28:=by have:=(SH Pm).1;omega
    refine⟨_,t2,rfl,?_⟩;have qC:Z0 q=DV.str q.name::DV.int .i64 (q.mask:Int)::ints q.cF:=rfl;rw[fh,qC,bZ,au];have aiW:(ints q.cF).length=12:=by rw[Zz];exact zw
    rw[bN aiW,ar,ao,<-qC,bN (BY zw)];have aau:nJ img qs (k::l.drop (i+1))=bif xW qs q then nJ img (qs++[q]) (l.drop (i+1))else none:=by
     conv=>lhs;unfold nJ
     rw[Kq];grind
    have go: ∀u,aB t2 u->xW qs q=true->Ok (Mw st R) ((cj (Z0 q) λi3=>bV i3 0 14 λcE=>cu 14 pq qs.length cE 1 586406201480 λp1=>rec [.slice 14 p1 (qs.length+1),.i (aq ((i:Int)+1))]) u):=λu hu Y7=>by
     rw[Y7,ae]at aau;have ajA:=sH.mono hu;have iM:aB u (u++[some ⟨false,Z0 q⟩]):= .new _ _;rw[ZD,kq (f:=false) (all:=Z0 q) Do (by rw[BY zw];omega),dF,dG (by rw[BY zw];omega)];have⟨p6,u6,nA,sy,yY,vq⟩:=(ajA.mono iM).vb (Y:=ah) (sz:=14) (n:=qs.length) (m:=1) (lim:=586406201480) (ds:=Z0 q) AC (Js wu) (by rw[BY zw]) AC;rw[vq,Zb];have hlen:=((j4.trans aao).trans (hu.trans iM)).len;refine aN (l.length-(i+1)) _ _ AC ⟨i+1,14,p6,qs++[q],by rw[ba,iS];rfl,.inl rfl,AC,aJ _,by rw[Zzd];exact nA,λx hx=>?_,by rw[ba,iS,xO],by rw[KQ,aau],?_,?_,by have:=sy.1;omega⟩
     .rcases ga.1 hx with hx|hx
      .exact wu x hx
      grind
     .exact(PT.mono ((j4.trans aao).trans (hu.trans iM))).fx sy (AE λb hb cZ=>by have:=ajF b hb;have:=hpq b cZ;omega)
     grind
    rw[Za,bI,af,Za];by_cases wB:i=0
    .have ajN:qs=[]:=Fd
     rw[aU];simp only[ar,ao];rw[af,bN (BY zw)];exact go t2 (.refl _) (by rw[ajN];rfl)
    .have hx:qs[i-1]? =some (qs[i-1]' AC):=Fd
     have Kl:qs.getLast?=qs[i-1]? :=by rw[List.getLast?_eq_getElem?,xO]
     have aid:=wu _ (jj (AC:i-1<qs.length));generalize qs[i-1]' AC=pv at hx aid;obtain⟨i5,o5,rfl⟩:=sH.sl.cS (by rw[Js wu];omega);have cU:(vE qs)[(i-1)*14]? =some (.str pv.name):=by
      have:=Ob wu hx 0 AC;rw[fE]at this;rw[this];rfl
     rw[aR,bh,Zb,show(i:Int)-1=((i-1:Nat):Int) by omega,Zc (Zi),bn,sH.sl.get cU,BI];refine Ok.cv (Zis (n+1) pv.name q.name AC AC AC AC t2) λt3 ajJ=>?_
     simp only[au,ar,ao];have Y7:xW qs q=decide (cmpL (dK pv.name) (dK q.name)<0):=by
      unfold xW;rw[Kl,hx]
     by_cases O9:cmpL (dK pv.name) (dK q.name)>=0
     .rw[aR O9]
      refine fail t3 (sH.mono ajJ).1 ?_;rw[aau,Y7,bP AC];rfl
     .rw[aU O9,bN (BY zw)]
      grind
 .rw[aU,sC]
  rw[lx AC]at KQ;rw[KQ]at hR;simp only[aZ,ao];rw[ZD];have iM:aB t (t++[some ⟨false,[.i dir]⟩]):= .new _ _;have ajz:=gW.mono iM;have r1: ∀K:ah->M ah,dV pl (l.length*1) K (t++[some ⟨false,[.i dir]⟩])=K (ints l) (t++[some ⟨false,[.i dir]⟩]):=λK=>by
   have:=j9 (PT.mono iM) K;rwa [Zz,<-cR l.length]at this
  rw[r1];have hod:bc st (t++[some (⟨false,[.i dir]⟩:bQ)]) (some (t.length,0)) (ints [dir]):=⟨gW.1.trans iM,.inr ⟨t.length,rfl,gW.1.len,by simp[ints]⟩⟩;have⟨p6,u6,nA,sy,yY,vq⟩:=hod.vb (Y:=ah) (sz:=1) (n:=1) (m:=l.length) (lim:=8796093022208) (ds:=ints l) AC rfl (by rw[Zz,cR]) AC;have ajM:=gW.qJ;have ajy:bc st u6 pq (vE qs):=ajz.yT sy (λb hb cZ=>by have:=ajM b hb;have:=cH.1 cZ;omega) nA.1;rw[vq,Zs];refine .mk ⟨_,Zx nA.1,?_⟩;rw[<-hR];refine⟨14,pq,1,p6,?_,.inl rfl,.inl rfl,ajy.sl.gk _,?_,wu,AC,by simp;omega⟩
  .rw[cQ,tm 1 l.length]
  .have:ints (dir::l)=ints [dir]++ints l:=rfl
   rw[this];exact nA.sl.gk _
def mK (img:aj) (top:Int) (u:Nat) (g:Int):Nat->Nat->List aX->Option (List aX)
 |0,_,l=>some l
 |c+1,i,l=>match nx img top i with
  |none=>none
  |some s=>bif decide (u<=i)then(bif oA s then mK img top u g c (i+1) l else none)else(bif decide (s.gen<1)||decide (s.gen>g)then none else mK img top u g c (i+1) (l++[s]))
def sh (img:aj) (x:cm):Option (List aX×ak):=match yF img x.bY with
 |none=>none
 |some pg=>bif decide (pg.length=(x.used.toNat+6)/7+qy x.used.toNat)then(match mK img x.bY x.used.toNat x.g (7*((x.used.toNat+6)/7)) 0 []with
  |none=>none
  |some l=>some (l,pg))else none
def QS (st:St) (R:Option (List aX×ak)) (o:Out ah×St):Prop:=∃s',aB st s'/\match R with
 |none=>o=(.val [.slice 0 none 0,.slice 0 none 0,.bool false],s')
 |some (l,pg)=>∃p q,o=(.val [.slice 3 p l.length,.slice 1 q pg.length,.bool true],s')/\Sl s' p (bX l)/\Sl s' q (ints pg)
theorem ZtT {a:Nat} (h:a<=1792):qy a<=17:=by
 grind[qy]
theorem Zqx (n:Nat) (img:aj) (x:cm) (pc:ai) (st:St) (hl:img.length<1000000) (hx:ox x) (hn:4000<=n):
  Ok (QS st (sh img x)) (run Bd n 243 [.str img,.agg (dI x pc)] st):=by
 obtain _|n:=n;omega;rw[Ze,h.agS];unfold Sk MA tt az cT cK se jN nh fF tI Li Ah tw Lb jy
 try dsimp only
 rw[bZ,fh];unfold dI;simp only[au,aZ,ao,Z8];have⟨g1,g2,g3,g4,_,_⟩:=ZM hx.g;have sO:=hx.u0;have zB:=hx.u1;have⟨u,hu⟩: ∃u:Nat,x.used=(u:Int):=⟨x.used.toNat,AC⟩;have hut:x.used.toNat=u:=AC
 have zC:u<=1792:=AC
 have⟨R,hR⟩: ∃R,sh img x=R:=⟨_,rfl⟩;rw[hR,hu];have bad: ∀s',aB st s'->R=none->Ok (QS st R) ((cw st.length [.slice 0 none 0,.slice 0 none 0,.bool false]:M ah) s'):=λs' hp hn=>by
  rw[hn,Zs];exact .mk ⟨_,Zx hp,rfl⟩
 unfold sh at hR;rw[hut]at hR;refine Ok.call (Zqr n img x.bY st hl AC) ?_;rintro o ⟨s1,aH,ho⟩;have lv: ∀t,Ok (λo=>o=(.val [.i (((u+6)/7:Nat):Int)],t)) (run Bd n 266 [.i (u:Int)] t):=λt=>Zji n u AC t
 cases hP:yF img x.bY
 .rw[hP]at ho hR;simp only at ho;subst ho;refine⟨_,s1,rfl,?_⟩;rw[Zh 1 0 none _ (.inr rfl),ar,ao,Za,bD,ae];simp only[ar,ao];rw[ae];exact bad s1 aH hR.symm
 .rename_i pg;rw[hP]at ho hR;obtain⟨q,rfl,hq⟩:=ho;simp only at hR;refine⟨_,s1,rfl,?_⟩;rw[aZ,ar,ao,Za,bI,af];obtain⟨_,e1,rfl⟩:=lv s1;rw[xr e1,au,ao];obtain⟨_,e2,rfl⟩:=Zsf n u AC s1 AC;rw[xr e2];simp only[au,ar,ao];have hfn:=ZtT zC;rw[Zb (x:=(((u+6)/7:Nat):Int)+(qy u:Int))];have Yr:((pg.length:Int)==(((u+6)/7:Nat):Int)+(qy u:Int))=decide (pg.length=(u+6)/7+qy u):=by
   have:=pJ pg.length ((u+6)/7+qy u) ((((u+6)/7:Nat):Int)+(qy u:Int));exact this
  rw[Yr];cases hc:decide (pg.length=(u+6)/7+qy u)with
  |false=>
   rw[hc,af]at hR;rw[bD,ae];grind
  |true=>
  rw[hc,ae]at hR;rw[bI,af];refine Ok.join λaG mU=>?_
  have⟨m,hm⟩: ∃m,7*((u+6)/7)=m:=⟨_,rfl⟩;rw[hm]at hR;refine Zj _ (λc y t=>∃(i z:Nat) (pl:ai) (l:List aX),y=[.slice z pl l.length,.i (i:Int)]/\(z=3\/pl=none)/\i<=m/\m-i<=c/\bc st t pl (bX l)/\l.length<=i/\mK img x.bY u x.g m 0 []=mK img x.bY u x.g (m-i) i l/\Sl t q (ints pg)/\(∀b∈aM pl,s1.length<=b)/\s1.length<=t.length) ?_ m n _ _ ⟨0,0,none,[],rfl,.inr rfl,cN _,AC,.nil aH,aJ _,rfl,hq,λb hb=>(by cases hb),aJ _⟩ AC;have xO:=hq.qJ;rintro c y t ⟨i,z,pl,l,rfl,hz,hi,O8,gW,fV,aL,hqt,jT,cq⟩ rec aN;rw[Zh 3 z pl _ hz,au,ao];obtain⟨_,e3,rfl⟩:=lv t;rw[Zk e3,au,ao,Zb (x:=7*(((u+6)/7:Nat):Int)),show 7*(((u+6)/7:Nat):Int)=(m:Int) by omega];by_cases av:i<m
  .rw[aR]
   have⟨r,hr⟩: ∃r,m-i=r+1:=⟨m-i-1,AC⟩;rw[hr]at aL;have iH:m-(i+1)=r:=AC
   refine Ok.call (Zr8 n img x.bY i t hl AC AC) ?_;rintro _ ⟨t1,rfl,j4⟩;have Hz:=gW.mono j4;refine⟨_,t1,rfl,?_⟩;rw[fh];unfold eZ;simp only[ar,au,ao];have fail:mK img x.bY u x.g (r+1) i l=none->Ok (QS st R) ((cw st.length [.slice 0 none 0,.slice 0 none 0,.bool false]:M ah) t1):=λhf=>by
    refine bad t1 Hz.1 ?_;rw[aL,hf]at hR;exact hR.symm
   rw[Za];cases hF:nx img x.bY i
   .rw[kT FS];simp only[ar,ao];rw[Za,ae];simp only[ar,ao];rw[ae];exact fail (by unfold mK;rw[hF])
   .rename_i s;have eH:mK img x.bY u x.g (r+1) i l=bif decide (u<=i)then(bif oA s then mK img x.bY u x.g r (i+1) l else none)else(bif decide (s.gen<1)||decide (s.gen>x.g)then none else mK img x.bY u x.g r (i+1) (l++[s])):=by
     conv=>lhs;unfold mK
     rw[hF]
    rw[pL FS,show(some s).getD gQ=s from rfl];have KV:((s.live==false)&&((s.gen==0)&&((s.block==0)&&true)))=oA s:=rfl;rw[KV,Za];by_cases hiu:u<=i
    .rw[aR hiu]at eH
     rw[aR];simp only[ar,ao];rw[Za];cases xS:oA s
     .rw[xS,af]at eH;rw[bD,ae];simp only[ar,ao];rw[ae];exact fail eH
     .rw[xS,ae]at eH;rw[bI,af,Za,bP (AC:¬(i:Int)<(u:Int)),af];simp only[ar,ao];rw[af,Za,af];simp only[aZ,ao];rw[Zb];exact aN (m-(i+1)) _ _ AC ⟨i+1,3,pl,l,rfl,.inl rfl,AC,aJ _,Hz,AC,by rw[aL,eH,iH],hqt.mono j4,jT,by have:=j4.len;omega⟩
    .rw[aU hiu]at eH
     rw[aU];simp only[ar,ao];rw[Za,af,Za,aQ (AC:(i:Int)<(u:Int)),ae,Za];by_cases pS:s.gen<1
     .rw[aQ pS,Bool.true_or,ae]at eH
      rw[aR pS];simp only[ar,ao];rw[ae];exact fail eH
     .rw[bP pS,wX]at eH
      rw[aU pS];simp only[ar,ao];by_cases rr:s.gen>x.g
      .rw[aR rr]at eH
       rw[aR rr];exact fail eH
      .rw[aU rr]at eH
       rw[aU rr,Za,ae];have hsc:([.bool s.live,.i s.gen,.i s.block]:ah)=eZ s:=rfl;rw[hsc];have iM:aB t1 (t1++[some ⟨false,eZ s⟩]):= .new _ _;rw[ZD,kq (f:=false) (all:=eZ s) Do (by show 0+3<=3;omega),dF,dG (show(eZ s).length<=3 from aJ _)];have⟨p6,u6,nA,sy,yY,vq⟩:=(Hz.mono iM).vb (Y:=ah) (sz:=3) (n:=l.length) (m:=1) (lim:=2932031007402) (ds:=eZ s) AC (ZE l) rfl AC;rw[vq];simp only[aZ,ao];rw[Zb];have hlen:=(j4.trans iM).len;refine aN (m-(i+1)) _ _ AC ⟨i+1,3,p6,l++[s],by rw[ba,iS];rfl,.inl rfl,AC,aJ _,?_,by rw[ba,iS];omega,by rw[aL,eH,iH],?_,λb hb=>?_,by have:=sy.1;omega⟩
       .rw[IV]
        have:bX [s]=eZ s:=by unfold bX;simp
        rw[this];exact nA
       .exact(hqt.mono (j4.trans iM)).fx sy (AE λb hb cZ=>by have:=xO b hb;have:=jT b cZ;omega)
       grind
  .rw[aU,mU]
   rw[show m-i=0 by omega]at aL;rw[aL]at hR;simp only[aZ,ao,Zs];refine .mk ⟨_,Zx gW.1,?_⟩;rw[<-hR];exact⟨pl,q,rfl,gW.sl.gk _,hqt.gk _⟩
def nT (l:List aX) (u g:Int):Nat->Int->ak->Option (ak)
 |0,_,_=>none
 |f+1,k,out=>bif k==0 then some out else(bif decide (k>u)then none else(match l[(k-1).toNat]? with
  |none=>none
  |some s=>bif s.live then none else(bif decide (s.gen>=g)then none else(bif decide (k-1∈out)then none else nT l u g f s.block (out++[k-1])))))
def ur (g:Int) (out:ak) (i:Nat) (s:aX):Bool:=bif s.live then true else(bif decide (s.gen<g)then decide ((i:Int)∈out)else(bif s.gen==g then s.block==0 else true))
def tD (g:Int) (out:ak):Nat->List aX->Bool
 |_,[]=>true
 |i,s::r=>bif ur g out i s then tD g out (i+1) r else false
def xC (l:List aX) (x:cm):Option (ak):=match nT l x.used x.g (l.length+2) x.free []with
 |none=>none
 |some out=>bif tD x.g out 0 l then some out else none
def DF (st:St) (R:Option (ak)) (o:Out ah×St):Prop:=∃s',aB st s'/\match R with
 |none=>o=(.val [.slice 0 none 0,.bool false],s')
 |some l=>∃z p,o=(.val [.slice z p l.length,.bool true],s')/\(z=1\/p=none)/\Sl s' p (ints l)
theorem IN {x:aX} (h:l[j]? =some x) (k:Nat) (hk:k<3:=by omega):(bX l)[j*3+k]? =(eZ x)[k]? :=by
 have:=UR h;grind
theorem Zsj (n:Nat) (l:List aX) (z:Nat) (p:ai) (x:cm) (pc:ai) (st:St) (hz:z=3\/p=none) (hs:Sl st p (bX l)) (fV:(l.length:Int)=x.used) (lM:l.length<=1792) (hr: ∀s∈l,s.live=false->0<=s.block/\s.block<=5000) (hf:0<=x.free/\x.free<=5000) (hn:4000<=n):
  Ok (DF st (xC l x)) (run Bd n 244 [.slice z p l.length,.agg (dI x pc)] st):=by
 obtain _|n:=n;omega;rw[Ze,h.agT];unfold Tk yp gj Q_ dj N_ si az Zm bF l9 vN Li Lb fj bj jy
 try dsimp only
 rw[Zh 3 z p _ hz,fh];unfold dI;simp only[au,aZ,ao,Z8];have⟨R,hR⟩: ∃R,xC l x=R:=⟨_,rfl⟩;rw[hR];have bad: ∀s',aB st s'->R=none->Ok (DF st R) ((cw st.length [.slice 0 none 0,.bool false]:M ah) s'):=λs' hp hn=>by
  rw[hn,Zs];exact .mk ⟨_,Zx hp,rfl⟩
 unfold xC at hR;have Fe: ∀(t:St) (j:Nat) (s:aX),Sl t p (bX l)->l[j]? =some s->∃i o,p=some (i,o)/\(∀K:DV->M ah,bH i (j*3+o) K t=K (.bool s.live) t)/\(∀K:DV->M ah,bH i (j*3+o+1) K t=K (.i s.gen) t)/\∀K:DV->M ah,bH i (j*3+o+2) K t=K (.i s.block) t:=λt j s ht hj=>by
  have vt:=(eE.1 hj).1;obtain⟨i,o,rfl⟩:=ht.cS (by rw[ZE];omega);refine⟨i,o,rfl,λK=>?_,λK=>?_,λK=>?_⟩
  .have:=ht.get (Y:=ah) (by rw[IN hj 0];rfl) K
   exact this
  .have:=ht.get (Y:=ah) (by rw[IN hj 1];rfl) K
   rw[show j*3+o+1=j*3+1+o by omega];exact this
  .have:=ht.get (Y:=ah) (by rw[IN hj 2];rfl) K
   rw[show j*3+o+2=j*3+2+o by omega];exact this
 refine Ok.join λax sC=>?_
 refine Zj _ (λc y t=>∃(k:Int) (f z1:Nat) (po:ai) (out:ak),y=[.slice z1 po out.length,.i k]/\(z1=1\/po=none)/\(0<=k/\k<=5000)/\out.length+f=l.length+1/\f<=c/\bc st t po (ints out)/\out.Nodup/\(∀j∈out,0<=j/\j<(l.length:Int))/\nT l x.used x.g (l.length+2) x.free []=nT l x.used x.g (f+1) k out/\Sl t p (bX l)) ?_ (l.length+1) n _ _ ⟨x.free,l.length+1,0,none,[],rfl,.inr rfl,hf,Do,aJ _,.nil (.refl _),.nil,λj hj=>(by cases hj),rfl,hs⟩ AC;rintro c y t ⟨k,f,z1,po,out,rfl,kD,hk,dZ,Pf,gW,eJ,fA,aL,cq⟩ rec aN;rw[Zh 1 z1 po _ kD,au,ao];have j3:(ints out).length=out.length*1:=by rw[Zz,cR]
 have fail: ∀u,aB st u->nT l x.used x.g (f+1) k out=none->Ok (DF st R) ((cw st.length [.slice 0 none 0,.bool false]:M ah) u):=λu hu hf=>by
  refine bad u hu ?_;rw[aL,hf]at hR;exact hR.symm
 by_cases mV:k=0
 .have aiF:nT l x.used x.g (f+1) k out=some out:=by unfold nT;rw[mV];rfl
  rw[aL,aiF]at hR;simp only at hR;rw[mV,pL FS,sC];simp only[aZ,ao];refine Ok.join λaG mU=>?_
  refine Zj _ (λc y u=>∃i:Nat,y=[.i (i:Int)]/\i<=l.length/\l.length-i<=c/\u=t/\tD x.g out 0 l=tD x.g out i (l.drop i)) ?_ l.length n _ _ ⟨0,rfl,cN _,AC,rfl,rfl⟩ AC;rintro c2 y2 u ⟨i,rfl,hi,jC,rfl,sJ⟩ dP mW;rw[au,ao];by_cases av:i<l.length
  .have da:l[i]? =some l[i]:=cc av
   have gr:l.drop i=l[i]::l.drop (i+1):=iR av;generalize l[i]=s at da gr;rw[gr]at sJ;have HD:tD x.g out 0 l=bif ur x.g out i s then tD x.g out (i+1) (l.drop (i+1))else false:=sJ;obtain⟨pi,LD,rfl,Fc,ld1,ld2⟩:=Fe u i s cq da;have AN:ur x.g out i s=true->Ok (DF st R) (dP [.i (aq ((i:Int)+1))] u):=λhb=>by
    rw[hb,ae]at HD;rw[Zb];exact mW (l.length-(i+1)) _ _ AC ⟨i+1,rfl,AC,aJ _,rfl,HD⟩
   have LS:ur x.g out i s=false->Ok (DF st R) ((cw st.length [.slice 0 none 0,.bool false]:M ah) u):=λhb=>by
    rw[hb,af]at HD;rw[HD]at hR;exact bad u gW.1 hR.symm
   rw[aR,bh,Zc (Zi av),bn,Fc,uI,Za];cases eQ:s.live
   .have hb:ur x.g out i s=(bif decide (s.gen<x.g)then decide ((i:Int)∈out)else(bif s.gen==x.g then s.block==0 else true)):=by unfold ur;rw[eQ];rfl
    rw[bD,ae,bh,Zc (Zi av),ld1];simp only[bg,ar,ao];rw[Za];have second:decide (s.gen<x.g)=false\/decide ((i:Int)∈out)=true->∀cA:ah->M ah,(∀b,cA [.bool b] u=(bif b then(cw st.length [.slice 0 none 0,.bool false]:M ah)else dP [.i (aq ((i:Int)+1))]) u)->
      Ok (DF st R) ((bif s.gen==x.g then cA [.bool (!(s.block==0))]else cA [.bool false]) u):=λmR cA CX=>by
     cases mT:(s.gen==x.g)
     .rw[af,CX,af];refine AN ?_;rw[hb,mT,af];rcases mR with h1|h1
      .rw[h1];rfl
      .rw[h1];cases decide (s.gen<x.g)<;>rfl
     .have alT:=eq_of_beq mT;rw[ae,CX];have cZ:ur x.g out i s=(s.block==0):=by
       rw[hb,aU,mT,ae]
      cases js:(s.block==0)
      .rw[bD,ae];exact LS (by rw[cZ,js])
      .rw[bI,af];exact AN (by rw[cZ,js])
    have aeq:decide (s.gen<x.g)=false\/decide ((i:Int)∈out)=true->Ok (DF st R) ((bK (some (pi,LD)) λi2 o1=>aA (aO (i:Int) l.length)<|bH i2 (i*3+o1) λd1=>uZ d1 λx1=>
      cO (λabA=>gT abA λb4 abB=>aF abB<|cO (λak2=>gT ak2 λb5 ak3=>aF ak3<|
       (bif b5 then(cw st.length [.slice 0 none 0,.bool false]:M ah)else dP [.i (aq ((i:Int)+1))])) λhZ=>
      bif b4 then bK (some (pi,LD)) λi3 o2=>aA (aO (i:Int) l.length)<|bH i3 (i*3+o2+2) λd2=>db .i64 d2 λx2=>hZ [.bool (!(x2==0))]
      else hZ [.bool false]) λdS=>
      bif !x1 then bK (some (pi,LD)) λi4 o3=>aA (aO (i:Int) l.length)<|bH i4 (i*3+o3+1) λd3=>db .i64 d3 λx3=>dS [.bool (x3==x.g)]
      else dS [.bool false]) u):=λmR=>by
     rw[bh,Zc (Zi av),Fc,uI,Za,eQ,bD,ae,bh,Zc (Zi av),ld1];simp only[bg,ar,ao];refine Ok.join λhZ ai2=>?_
     have:=second mR hZ (λb=>by rw[ai2];simp only[ar,ao]);cases mT:(s.gen==x.g)with
     |true=>
      rw[mT,ae]at this;rw[ae,bh,Zc (Zi av),ld2,bg];exact this
     |false=>
      rw[mT,af]at this;rw[af];exact this
    cases hg:decide (s.gen<x.g)
    .rw[af];simp only[ar,ao];rw[Za,af];exact aeq (.inl hg)
    .rw[ae];refine Ok.call (F6 n 1 out (i:Int) po u (.inl rfl) gW.sl) ?_;rintro _ rfl;refine⟨_,u,rfl,?_⟩;simp only[ar,ao];rw[Za];cases ho:decide ((i:Int)∈out)
     .rw[bD,ae];simp only[ar,ao];rw[ae];exact LS (by rw[hb,hg,ae,ho])
     .rw[bI,af];exact aeq (.inr ho)
   .have hb:ur x.g out i s=true:=by unfold ur;rw[eQ];rfl
    rw[bI,af];simp only[ar,ao];rw[Za,af];simp only[ar,ao];rw[Za,af,bh,Zc (Zi av),Fc,uI,Za,eQ,bI,af];simp only[ar,ao];rw[Za,af];simp only[ar,ao];rw[af];exact AN hb
  .rw[aU,mU]
   rw[lx AC]at sJ;rw[sJ,show tD x.g out i []=true from rfl,ae]at hR;simp only[ao,Zs];refine .mk ⟨_,Zx gW.1,?_⟩;rw[<-hR];exact⟨1,po,rfl,.inl rfl,gW.sl.gk _⟩
 .have eH:nT l x.used x.g (f+1) k out=(bif decide (k>x.used)then none else(match l[(k-1).toNat]? with
    |none=>none
    |some s=>bif s.live then none else(bif decide (s.gen>=x.g)then none else(bif decide (k-1∈out)then none else nT l x.used x.g f s.block (out++[k-1]))))):=by
   conv=>lhs;unfold nT
   rw[dM.2 mV,af]
  rw[dM.2 mV,bD,ae,Za];by_cases Kh:k>x.used
  .rw[aR Kh]at eH
   rw[aR Kh];simp only[ar,ao];rw[Za,ae];simp only[ar,ao];rw[Za,ae];simp only[ar,ao];rw[ae];exact fail t gW.1 eH
  .rw[aU Kh]at eH
   have⟨j,hj⟩: ∃j:Nat,k-1=(j:Int):=⟨(k-1).toNat,AC⟩;have vt:j<l.length:=AC
   have da:l[j]? =some l[j]:=cc vt;have nD:l[j]∈l:=jj vt;generalize l[j]=s at da nD;rw[hj,bn,da]at eH;simp only at eH;obtain⟨pi,LD,rfl,Fc,ld1,ld2⟩:=Fe t j s cq da;rw[aU Kh,bh,Zb (x:=k-1),hj,Zc (Zi vt),bn,Fc];simp only[uI,ar,ao];rw[Za];cases eQ:s.live
   .rw[eQ,af]at eH;rw[af,bh,Zc (Zi vt),ld1];simp only[bg,ar,ao];rw[Za];cases hg:decide (s.gen>=x.g)
    .rw[hg,af]at eH;rw[af];refine Ok.call (F6 n 1 out (j:Int) po t (.inl rfl) gW.sl) ?_;rintro _ rfl;refine⟨_,t,rfl,?_⟩;simp only[ar,ao];cases ho:decide ((j:Int)∈out)
     .rw[ho,af]at eH;have cC:(j:Int)∉out:=DD ho;have adx:(out++[(j:Int)]).Nodup:=jU.2 ⟨eJ,qQ.2 ⟨Do,.nil⟩,λa ha b hb e=>cC (by rw[<-cH.1 hb,<-e];exact ha)⟩;have adl: ∀a∈out++[(j:Int)],0<=a/\a<(l.length:Int):=λa ha=>by
       rcases ga.1 ha with ha|ha
       .exact fA a ha
       .rw[cH.1 ha];omega
      have Hy:=HO l.length _ adx adl;rw[ba,iS]at Hy;obtain⟨f,rfl⟩: ∃f',f=f'+1:=⟨f-1,AC⟩;rw[af];have iM:aB t (t++[some ⟨false,[.i (j:Int)]⟩]):= .new _ _;rw[ZD,kq (f:=false) (all:=[.i (j:Int)]) Do Do,dF,dG Do];have⟨p6,u6,nA,sy,yY,vq⟩:=(gW.mono iM).vb (Y:=ah) (sz:=1) (n:=out.length) (m:=1) (lim:=8796093022208) (ds:=[.i (j:Int)]) AC j3 rfl AC;rw[vq];have adT:Sl u6 (some (pi,LD)) (bX l):=by
       refine(hs.mono (nA.1))
      have⟨pi2,po2,e,_,_,akw⟩:=Fe u6 j s adT da;cases e;rw[bh,Zc (Zi vt),akw];simp only[bg];refine aN f _ _ AC ⟨s.block,f,1,p6,out++[(j:Int)],by rw[ba,iS],.inl rfl,hr s nD eQ,by rw[ba,iS];omega,aJ _,by rw[Nk];exact nA,adx,adl,by rw[aL,eH],adT⟩
     .rw[ho,ae]at eH;rw[ae];exact fail t gW.1 eH
    .rw[hg,ae]at eH;rw[ae];simp only[ar,ao];rw[ae];exact fail t gW.1 eH
   .rw[eQ,ae]at eH;rw[ae];simp only[ar,ao];rw[Za,ae];simp only[ar,ao];rw[ae];exact fail t gW.1 eH
def zG (m:Int) (l:ak) (a:Int):ak:=if 0<=a/\a<m/\a∉l then l.filter (λx=>decide (x<a))++a::l.filter (λx=>decide (a<x))else l
theorem N6 {l:ak} {a:Int} (h:lZ l):lZ (zG m l a)/\∀k,k∈zG m l a↔k∈l\/(k=a/\0<=a/\a<m):=by
 unfold zG;by_cases hc:0<=a/\a<m/\a∉l
 .rw[bx hc]
  refine⟨?_,λk=>?_⟩
  .unfold lZ
   rw[Mg];refine⟨List.Pairwise.sublist Mb h,FE.2 ⟨λx hx=>?_,List.Pairwise.sublist Mb h⟩,λx hx y hy=>?_⟩
   .grind
   grind
  grind
 grind
def rf (m:Int):ak->ak->Option (ak)
 |[],r=>some r
 |k::a,r=>bif decide (k<2)then none else(bif decide (k∈r)then none else rf m a (zG m r k))
def kz (u:Int) (l:List aX) (e:aP) (k:Int):Bool:=bif decide (e.slot>=u)then false else(match l[e.slot.toNat]? with
 |none=>false
 |some s=>(s.live==true)&&((s.gen==e.gen)&&((s.block==k)&&true)))
def jP (u:Int) (l:List aX):List aP->ak->Bool
 |e::es,k::ks=>bif kz u l e k then jP u l es ks else false
 |_,_=>true
def je (im:aj) (u:Int) (l:List aX):List ZL->List dw->ak->Int->Option (List dw×ak×Int)
 |[],hs,all,lv=>some (hs,all,lv)
 |q::r,hs,all,lv=>match wc im q.cF with
  |none=>none
  |some (es,ns)=>bif jP u l es ns then je im u l r (hs++[⟨q.name,kt es⟩]) (all++ns) (lv-es.length)else none
def pX (l:List aX):Nat:=(l.filter (·.live)).length
def xw (img:aj) (x:cm):Option (dW×ak):=bif !ZP x then none else(bif decide (x.blocks>((img.length/64:Nat):Int))then none else
 (match sh (img.take (64*x.blocks.toNat)) x with
 |none=>none
 |some (l,pg)=>match xC l x with
  |none=>none
  |some fr=>match wO (img.take (64*x.blocks.toNat)) x.dir with
   |none=>none
   |some (qs,bs)=>match je (img.take (64*x.blocks.toNat)) x.used l qs [] (pg++bs) (pX l)with
    |none=>none
    |some (hs,all,lv)=>match rf x.blocks all [0,1]with
     |none=>none
     |some r=>bif lv==0 then(bif decide (r.length=all.length+2)then some (⟨x.blocks,x.cW,x.g,hs,l.map (·.gen),fr⟩,r)else none)else none))
theorem ZnR {k:Int} {m:jz} (h:vC img k=some m):mb m=true/\m.kids.length<=12:=by
 unfold vC at h;cases hl:j8 img k
 .rw[hl]at h;cases h
 .rename_i l;rw[hl]at h;exact Nn h
theorem T2 {img:aj} : ∀(j:Nat) (ks:ak) (e:aP) (es:List aP) (bs:ak),ko img j ks e=some (es,bs)->∀a∈es,0<=a.slot/\a.slot<1792
 |0,_,_,_,_,h,a,ha=>by cases h;cases ha
 |j+1,ks,e,es,bs,h,a,ha=>by
  unfold ko at h;cases h1:ko img j ks e
  .rw[h1]at h;cases h
  .rename_i q;have⟨yQ,yK⟩:=q;have i1:=T2 j ks e yQ yK h1;rw[h1]at h;simp only at h;cases h2:vC img (ks.getD j 0)
   .rw[h2]at h;cases h
   .rename_i m;rw[h2]at h;simp only at h;cases h3:decide (m.kids.length=j)
    .rw[h3]at h;cases h
    .rw[h3,ae]at h;cases h4:ko img j m.kids m.br
     .rw[h4]at h;cases h
     .rename_i q;have⟨iE,xx⟩:=q;have i2:=T2 j m.kids m.br iE xx h4;rw[h4]at h;simp only at h;cases h5:eX e m.br
      .rw[h5]at h;cases h
      .rw[h5,ae]at h;cases h;rcases ga.1 ha with ha|ha
       .exact i1 a ha
       .rcases ep.1 ha with rfl|ha
        .exact Iw (ZnR h2).1
        .exact i2 a ha
theorem ZvW {k:Int} {bs:ak} (h:mw img d k=some (es,bs)): ∀a∈es,0<=a.slot/\a.slot<1792:=by
 unfold mw at h;cases h2:vC img k
 .rw[h2]at h;cases h
 .rename_i m;rw[h2]at h;simp only at h;cases h3:decide (m.kids.length=d)
  .rw[h3]at h;cases h
  .rw[h3,ae]at h;cases h4:ko img d m.kids m.br
   .rw[h4]at h;cases h
   .rename_i q;have⟨iE,xx⟩:=q;rw[h4]at h;cases h;intro a ha;rcases ep.1 ha with rfl|ha
    .exact Iw (ZnR h2).1
    .exact T2 d m.kids m.br iE xx h4 a ha
theorem TV {img:aj} : ∀(r:ak) (i:Nat) (es:List aP) (bs:ak) (eu:List aP) (ik:ak),mP img i r es bs=some (eu,ik)->i+r.length<=12->(∀a∈es,0<=a.slot/\a.slot<1792)->es.length+1<=2^i->bs.length=es.length->(∀a∈eu,0<=a.slot/\a.slot<1792)/\eu.length+1<=2^(i+r.length)/\ik.length=eu.length
 |[],i,es,bs,eu,ik,h,_,h1,h2,h3=>by cases h;exact⟨h1,h2,h3⟩
 |k::r,i,es,bs,eu,ik,h,hi,h1,h2,h3=>by
  rw[cQ]at hi⊢;unfold mP at h;cases hk:(k==0)
  .rw[hk,af]at h;cases ht:mw img i k
   .rw[ht]at h;cases h
   .rename_i q;have⟨fB,gv⟩:=q;rw[ht]at h;have⟨l1,l2⟩:=DW ht;have dR:=ZvW ht;have:=TV r (i+1) (es++fB) (bs++gv) eu ik h AC Fd (by rw[ba];omega) (by rw[ba,ba];omega);rwa [show i+1+r.length=i+(r.length+1) by omega]at this
  .rw[hk,ae]at h;have:=TV r (i+1) es bs eu ik h AC h1 AC h3;rwa [show i+1+r.length=i+(r.length+1) by omega]at this
theorem ZwC {bs:ak} (h:wc img r=some (es,bs)) (hr:r.length=12):(∀a∈es,0<=a.slot/\a.slot<1792)/\es.length<4096/\bs.length=es.length:=by
 have:=TV r 0 [] [] es bs h AC (λa ha=>by cases ha) Do rfl;rw[hr]at this;grind
theorem ZuY {s:aX} (h:nx img top i=some s):ZK s=true:=by
 unfold nx at h;cases h1:gZ img top
 .rw[h1]at h;cases h
 .rename_i f;rw[h1]at h;simp only at h;cases h2:gZ img (f.getD (i/112) 0)
  .rw[h2]at h;cases h
  .rename_i g;rw[h2]at h;simp only at h;cases h3:lg img (g.getD (i/7%16) 0)
   .rw[h3]at h;cases h
   .rename_i l;rw[h3]at h;simp only at h;have hm:=qc h;unfold lg at h3;by_cases hk:g.getD (i/7%16) 0=0
    .rw[bx hk]at h3
     cases h3;rw[List.eq_of_mem_replicate hm];rfl
    .rw[aY hk]at h3
     cases h4:j8 img (g.getD (i/7%16) 0)
     .rw[h4]at h3;cases h3
     .rename_i b;rw[h4]at h3;grind[ZI]
theorem U8 {img:aj} {top:Int} {u:Nat} {g:Int} : ∀(c i:Nat) (l l':List aX),mK img top u g c i l=some l'->(∀s∈l,ZK s=true)->l.length=min i u->(∀s∈l',ZK s=true)/\l'.length=min (i+c) u
 |0,i,l,l',h,h1,h2=>by cases h;exact⟨h1,h2⟩
 |c+1,i,l,l',h,h1,h2=>by
  unfold mK at h;cases hf:nx img top i
  .rw[hf]at h;cases h
  .rename_i s;rw[hf]at h;simp only at h;by_cases hui:u<=i
   .rw[aR hui]at h
    cases hz:oA s
    .rw[hz]at h;cases h
    .rw[hz,ae]at h;have:=U8 c (i+1) l l' h h1 AC;rwa [show i+1+c=i+(c+1) by omega]at this
   .rw[aU hui]at h
    cases hz:(decide (s.gen<1)||decide (s.gen>g))
    .rw[hz,af]at h;have:=U8 c (i+1) (l++[s]) l' h (λa ha=>by
      rcases ga.1 ha with ha|ha
      .exact h1 a ha
      .rw[cH.1 ha];exact ZuY hf) (by rw[ba,iS];omega)
     rwa [show i+1+c=i+(c+1) by omega]at this
    .rw[hz]at h;cases h
theorem VB {x:cm} (hx:ox x) (h:sh img x=some (l,pg)):(∀s∈l,ZK s=true)/\(l.length:Int)=x.used/\l.length<=1792/\pg.length<=273:=by
 have⟨g1,g2,g3,g4,_,_⟩:=ZM hx.g;have sO:=hx.u0;have zB:=hx.u1;unfold sh at h;cases hp:yF img x.bY
 .rw[hp]at h;cases h
 .rename_i p;rw[hp]at h;simp only at h;cases hd:decide (p.length=(x.used.toNat+6)/7+qy x.used.toNat)
  .rw[hd]at h;cases h
  .rw[hd,ae]at h;cases hs:mK img x.bY x.used.toNat x.g (7*((x.used.toNat+6)/7)) 0 []
   .rw[hs]at h;cases h
   .rename_i l';rw[hs]at h;cases h;have⟨a1,a2⟩:=U8 _ _ _ _ hs (λs hs=>by cases hs) Do;have hfn:=ZtT (a:=x.used.toNat) AC;grind
theorem Zko {s:aX} (h:ZK s=true) (hl:s.live=false):0<=s.block/\s.block<=5000:=by
 grind[ZK,kR]
set_option maxHeartbeats 2000000
open Go.Gv
def zz (a b c:Nat):ah:=[.i 0,.i 0,.i 0,.slice a none 0,.slice b none 0,.slice c none 0]
def vR (st:St) (R:Option (dW×ak)) (o:Out ah×St):Prop:=∃s',aB st s'/\match R with
 |none=>o=(.val [.agg (zz 0 0 0),.slice 0 none 0,.bool false],s')
 |some (y,r)=>∃z1 p1 p2 p3 q,o=(.val [.agg (fa y z1 p1 1 p2 1 p3),.slice 1 q r.length,.bool true],s')/\(z1=2\/p1=none)/\qh s' y p1 p2 p3/\Sl s' q (ints r)
theorem ZyB {l:List ZL} (h:Ia l) {x:ZL} (hj:l[j]? =some x):((vE l).drop (j*14+2)).take 12=ints x.cF:=by
 have hx:=h x (qc hj);refine th λk=>?_
 rw[uE];split
 .rename_i hk
  rw[w4,show j*14+2+k=j*14+(2+k) by omega,Ob h hj (2+k) AC];show(DV.str x.name::DV.int .i64 x.mask::ints x.cF)[2+k]? =_;rw[show 2+k=k+1+1 by omega,rO,rO]
 .rw[Dx (by rw[Zz,hx.1];omega)]
theorem Zy5 {l:List aP} (h:l[j]? =some e):((bW l).drop (j*4)).take 2=[.i e.slot,.i e.gen]:=by
 have:=Gf h;have h2:=congrArg (List.take 2) this;rw[H2]at h2;exact h2
theorem Zxj (u:Int) (l:List aX) (h1:es[k]? =some e) (h2:ns[k]? =some w):jP u l (es.drop k) (ns.drop k)=bif kz u l e w then jP u l (es.drop (k+1)) (ns.drop (k+1))else false:=by
 have⟨a1,a2⟩:=eE.1 h1;have⟨b1,b2⟩:=eE.1 h2;rw[iR a1,iR b1,a2,b2];rfl
theorem Zrw (k:Nat) {s:St} : ∀ {ds:ah} {xs:List dw},kQ s ds xs->kQ (lE k s) ds xs
 |_,[],h=>h
 |_,_::_,⟨z,p,t,hz,h1,h2,h3⟩=>⟨z,p,t,hz,h1,h2.gk k,Zrw k h3⟩
theorem ZvR (l:List aX) (s:aX):pX (l++[s])=pX l+(bif s.live then 1 else 0):=by
 grind[pX]
theorem Zup (l:List aX):pX l<=l.length:=List.length_filter_le _ _
theorem ZpT (n:Nat) (img:aj) (x:cm) (pc:ai) (st:St) (hl:img.length<1000000) (hc:Sl st pc (ints x.aK)) (cU:x.aK.length<1000) (hn:80000<=n):
  Ok (vR st (xw img x)) (run Bd n 211 [.str img,.agg (dI x pc)] st):=by
 obtain _|n:=n;omega;rw[Ze,h.agp];unfold SE MA bF az Jw tt qZ cT Q5 ck q9 Zo jL Zg7 N_ Gx yq Aj jx se Zm si qg yr BQ fF gG Lb jA fj tx BP Li
 try dsimp only
 rw[bZ,fh];have ET:=λs1 (hp:aB st s1)=>ZkF n x pc s1 (hc.mono hp) cU
 have qH:=λim (hi:im.length<1000000) (hx:ox x) s1=>Zqx n im x pc s1 hi hx AC
 have ec:=λ(l:List aX) z p s1 hz hs fV lM hr hf=>Zsj n l z p x pc s1 hz hs fV lM hr hf AC
 unfold dI at ET qH ec⊢;simp only[au,aZ,ao,Z8];have⟨R,hR⟩: ∃R,xw img x=R:=⟨_,rfl⟩;rw[hR];have bad: ∀s',aB st s'->R=none->Ok (vR st R) ((cw st.length [.agg [.i 0,.i 0,.i 0,.slice 0 none 0,.slice 0 none 0,.slice 0 none 0],.slice 0 none 0,.bool false]:M ah) s'):=λs' hp hn=>by
  rw[hn,Zs];exact .mk ⟨_,Zx hp,rfl⟩
 unfold xw at hR;refine Ok.cv (ET st (.refl st)) λs1 aH=>?_
 simp only[ar,ao];rw[Za];cases hS:ZP x with
 |false=>
  rw[hS,bD,ae]at hR;rw[bD,ae];simp only[ar,ao];rw[ae];exact bad s1 aH hR.symm
 |true=>
 have hx:=(xk x).1 hS;have⟨g1,g2,g3,g4,g5,g6⟩:=ZM hx.g;have wz:=hx.f0;have CP:=hx.f1;rw[hS,bI,af]at hR;have ediv:aq ((img.length:Int).tdiv 64)=((img.length/64:Nat):Int):=by
  rw[show(img.length:Int).tdiv 64=((img.length/64:Nat):Int)from rfl];exact Zb
 rw[bI,af,ediv];simp only[ar,ao];by_cases js:x.blocks>((img.length/64:Nat):Int)
 .rw[aR js]at hR
  rw[aR js];grind
 rw[aU js]at hR;rw[aU js];have⟨m,hm⟩: ∃m:Nat,x.blocks=(m:Int):=Fd
 have kA:x.blocks.toNat=m:=AC
 have akg:aq (64*x.blocks)=((64*m:Nat):Int):=by rw[hm,Zb];omega
 rw[kA]at hR;rw[akg,Zc (by rw[aS,bq,bq];omega)];simp only[bn];have⟨im,EC⟩: ∃im,img.take (64*m)=im:=⟨_,rfl⟩;have YS:im.length<1000000:=by rw[<-EC,cB];omega
 rw[EC]at hR⊢;refine Ok.call (qH im YS hx s1) ?_;rintro o ⟨s2,bd,ho⟩;have sI:=aH.trans bd;cases G8:sh im x with
 |none=>
  rw[G8]at ho hR;simp only at ho;subst ho;refine⟨_,s2,rfl,?_⟩;simp only[Zh 3 0 none _ (.inr rfl),Zh 1 0 none _ (.inr rfl),ar,ao];rw[bD,ae];exact bad s2 sI hR.symm
 |some q=>
 have⟨l,pg⟩:=q;rw[G8]at ho hR;obtain⟨px1,px2,rfl,oN,qI⟩:=ho;simp only at hR;have⟨l1,l2,l3,l4⟩:=VB hx G8;refine⟨_,s2,rfl,?_⟩;simp only[aZ,ar,ao];rw[bI,af];refine Ok.call (ec l 3 px1 s2 (.inl rfl) oN l2 l3 (λs hs eQ=>Zko (l1 s hs) eQ) AC) ?_;rintro o ⟨s3,dh,ho⟩;have EO:=sI.trans dh;have j5:=λs3=>Zsm n im x.dir s3 YS AC
 cases O0:xC l x with
 |none=>
  rw[O0]at ho hR;simp only at ho;subst ho;refine⟨_,s3,rfl,?_⟩;simp only[Zh 1 0 none _ (.inr rfl),ar,ao];refine Ok.call (j5 s3) ?_;rintro o ⟨s4,hJ,ho⟩;cases G5:wO im x.dir
  .rw[G5]at ho;simp only at ho;subst ho;refine⟨_,s4,rfl,?_⟩;simp only[Zh 14 0 none _ (.inr rfl),Zh 1 0 none _ (.inr rfl),ar,ao];rw[Za,bD,ae];simp only[ar,ao];rw[ae];exact bad s4 (EO.trans hJ) hR.symm
  .rename_i q;have⟨qs,bs⟩:=q;rw[G5]at ho;obtain⟨z,p,z2,q,rfl,hz,iN,_⟩:=ho;refine⟨_,s4,rfl,?_⟩;simp only[Zh 14 z p _ hz,Zh 1 z2 q _ iN,ar,ao];rw[Za,bD,ae];simp only[ar,ao];rw[ae];exact bad s4 (EO.trans hJ) hR.symm
 |some fr=>
 rw[O0]at ho hR;obtain⟨zf,pf,rfl,hzf,qF⟩:=ho;simp only at hR;refine⟨_,s3,rfl,?_⟩;simp only[Zh 1 zf pf _ hzf,ar,ao];refine Ok.call (j5 s3) ?_;rintro o ⟨s4,hJ,ho⟩;have aaj:=EO.trans hJ;cases G5:wO im x.dir with
 |none=>
  rw[G5]at ho hR;simp only at ho;subst ho;refine⟨_,s4,rfl,?_⟩;simp only[Zh 14 0 none _ (.inr rfl),Zh 1 0 none _ (.inr rfl),ar,ao];rw[Za,bI,af];simp only[ar,ao];rw[bD,ae];exact bad s4 aaj hR.symm
 |some q=>
 have⟨qs,bs⟩:=q;rw[G5]at ho hR;obtain⟨z6,px6,z7,px7,rfl,hz6,hz7,hq6,hq7,wu,al8,alM⟩:=ho;simp only at hR;refine⟨_,s4,rfl,?_⟩;simp only[Zh 14 z6 px6 _ hz6,Zh 1 z7 px7 _ hz7,ar,ao];rw[Za,bI,af];simp only[ar,ao];rw[af];have hL:=oN.mono (dh.trans hJ);have hPg:=qI.mono (dh.trans hJ);have hFs:=qF.mono hJ;have OA: ∀s',aB s4 s'->R=none->Ok (vR st R) ((cw st.length [.agg [.i 0,.i 0,.i 0,.slice 0 none 0,.slice 0 none 0,.slice 0 none 0],.slice 0 none 0,.bool false]:M ah) s'):=λs' hp hn=>bad s' (aaj.trans hp) hn
 rw[ZD];have⟨s5,hs5⟩: ∃s5,s4++[some (⟨false,[]⟩:bQ)]=s5:=⟨_,rfl⟩;have nC:aB s4 s5:=by rw[<-hs5];exact .new _ _
 rw[hs5];have ajx:bc s4 s5 (some (s4.length,0)) []:=⟨nC,Fd⟩;have r2: ∀K:ah->M ah,dV px2 (pg.length*1) K s5=K (ints pg) s5:=λK=>by
  have:=j9 (hPg.mono nC) K;rwa [Zz,<-cR pg.length]at this
 rw[r2];have⟨pa1,s6,nA,sy,yY,vq⟩:=ajx.vb (Y:=ah) (sz:=1) (n:=0) (m:=pg.length) (lim:=8796093022208) (ds:=ints pg) AC rfl (by rw[Zz,cR]) AC;rw[vq];rw[gR]at nA;have r7: ∀K:ah->M ah,dV px7 (bs.length*1) K s6=K (ints bs) s6:=λK=>by
  have:=j9 (hq7.mono nA.1) K;rwa [Zz,<-cR bs.length]at this
 rw[r7];have⟨pa,s7,KE,hf7,hb7,he7⟩:=nA.vb (Y:=ah) (sz:=1) (n:=0+pg.length) (m:=bs.length) (lim:=8796093022208) (ds:=ints bs) AC (by rw[Zz];omega) (by rw[Zz,cR]) AC;rw[he7];rw[<-NJ]at KE;have AV:(pg++bs).length=0+pg.length+bs.length:=by rw[ba];omega
 rw[<-AV];have⟨Cn,acO⟩: ∃Cn,pg++bs=Cn:=⟨_,rfl⟩;have alJ:Cn.length<=300:=by rw[<-acO,ba];omega
 rw[acO]at KE hR⊢;refine Ok.join λaW oe=>?_
 have Fe: ∀(t:St) (j:Nat) (s:aX),Sl t px1 (bX l)->l[j]? =some s->∃i o,px1=some (i,o)/\(∀K:DV->M ah,bH i (j*3+o) K t=K (.bool s.live) t)/\(∀K:DV->M ah,bH i (j*3+o+1) K t=K (.i s.gen) t)/\∀K:ah->M ah,bV i (j*3+o) 3 K t=K (eZ s) t:=λt j s ht hj=>by
  have vt:=(eE.1 hj).1;obtain⟨i,o,rfl⟩:=ht.cS (by rw[ZE];omega);refine⟨i,o,rfl,λK=>?_,λK=>?_,λK=>?_⟩
  .have:=ht.get (Y:=ah) (by rw[IN hj 0];rfl) K
   exact this
  .have:=ht.get (Y:=ah) (by rw[IN hj 1];rfl) K
   rw[show j*3+o+1=j*3+1+o by omega];exact this
  .rw[ht.yU (k:=j*3) (n:=3) (by rw[ZE];omega),UR hj]
 refine Zj _ (λc y t=>∃(i z94 QA:Nat) (ya:ai),y=[.agg [.i x.blocks,.i x.cW,.i x.g,.slice z94 none 0,.slice QA ya i,.slice 1 pf fr.length],.i ((pX (l.take i):Nat):Int),.i (i:Int)]/\(QA=1\/ya=none)/\i<=l.length/\l.length-i<=c/\bc s4 t ya (ints ((l.take i).map (·.gen)))/\bc s4 t pa (ints Cn)/\(∀b∈aM ya,b∉aM pa)) ?_ l.length n _ _ ⟨0,0,0,none,by rw[hm];rfl,.inr rfl,cN _,AC,.nil KE.1,KE,λb hb=>by cases hb⟩ AC;rintro c y t ⟨i,z94,QA,ya,rfl,akq,hi,O8,Bf,nB,Pb⟩ Dr adK;rw[fh];simp only[au,Zh 2 z94 none _ (.inr rfl),Zh 1 QA ya _ akq,aZ,ao];by_cases av:i<l.length
 .have da:l[i]? =some l[i]:=cc av
  have hY:l.take (i+1)=l.take i++[l[i]]:=oq av;generalize l[i]=s at da hY;have⟨pi,po,e1,Fc,ld1,_⟩:=Fe t i s (hL.mono nB.1) da;have kV:(ints ((l.take i).map (·.gen))).length=i*1:=by rw[Zz,mC,cB];omega
  rw[aR,e1,bh,Zc (Zi av)];simp only[bn];rw[ld1];simp only[bg];have iM:aB t (t++[some ⟨false,[.i s.gen]⟩]):= .new _ _;rw[ZD,kq (f:=false) (all:=[.i s.gen]) Do Do,dF,dG Do];have⟨pg6,u6,aad,aiK,ais,aiE⟩:=(Bf.mono iM).vb (Y:=ah) (sz:=1) (n:=i) (m:=1) (lim:=8796093022208) (ds:=[.i s.gen]) AC kV rfl AC;rw[aiE];have ajl:bc s4 u6 pa (ints Cn):=(nB.mono iM).yT aiK (λb hb cZ=>Pb b cZ hb) aad.1;have⟨pi2,po2,e2,akv,_,_⟩:=Fe u6 i s (hL.mono aad.1) da;rw[e1]at e2;cases e2;rw[bh,Zc (Zi av),akv];simp only[uI];have Hr:=Zup (l.take i);rw[cB]at Hr;have eH: ∀lv:Int,lv=((pX (l.take (i+1)):Nat):Int)->Ok (vR st R) (Dr [.agg [.i x.blocks,.i x.cW,.i x.g,.slice 2 none 0,.slice 1 pg6 (i+1),.slice 1 pf fr.length],.i lv,.i (aq ((i:Int)+1))] u6):=λlv eQ=>by
   rw[Zb,eQ];have halt:=nB.qJ;refine adK (l.length-(i+1)) _ _ AC ⟨i+1,2,1,pg6,rfl,.inl rfl,AC,aJ _,?_,ajl,λb hb cZ=>?_⟩
   .rw[hY,eV,show(List.map (·.gen) [s])=[s.gen]from rfl,Nk]
    exact aad
   .rcases ais b hb with h1|h1
    .exact Pb b h1 cZ
    .have:=halt b cZ
     have:=iM.len;omega
  have EH:pX (l.take (i+1))=pX (l.take i)+(bif s.live then 1 else 0):=by rw[hY,ZvR]
  rw[Za];cases eQ:s.live
  .rw[eQ,af,fE]at EH;rw[af];simp only[au,ao];exact eH _ (by rw[EH];rfl)
  .rw[eQ,ae]at EH;rw[ae];simp only[au,ao];exact eH _ (by rw[Zb,EH];rfl)
 rw[aU,oe];rw[dG AC]at Bf⊢;have j3:i=l.length:=AC
 subst j3;clear oe aW Dr adK;show Ok (vR st R) (bp [DV.agg _,DV.int .i64 _] _ t);rw[fh];simp only[au,aZ,Zh 2 2 none _ (.inr rfl),ao];refine Ok.join λbG CW=>?_
 have Hr:=Zup l;have⟨gs,zi⟩: ∃gs,l.map (·.gen)=gs:=⟨_,rfl⟩;have aiV:gs.length=l.length:=by rw[<-zi,mC]
 rw[zi]at Bf hR;rw[<-aiV];have ajK:aB s4 t:=nB.1;refine Zj _ (λc y u=>∃(i za zb zc zh:Nat) (pa ph:ai) (all:ak) (hs:List dw) (hd:ah) (lv:Int),y=[.agg (zz za zb zc),.slice 1 pa all.length,.agg [.i x.blocks,.i x.cW,.i x.g,.slice zh ph hs.length,.slice 1 ya gs.length,.slice 1 pf fr.length],.i lv,.i (i:Int)]/\(zh=2\/ph=none)/\i<=qs.length/\qs.length-i<=c/\bc s4 u pa (ints all)/\bc s4 u ph hd/\hd.length=hs.length*2/\rX u (aM pa++aM ph) hd hs/\bc s4 u ya (ints gs)/\(∀b∈aM pa,b∉aM ph)/\(∀b∈aM ya,b∉aM pa/\b∉aM ph)/\je im x.used l qs [] Cn (pX l)=je im x.used l (qs.drop i) hs all lv/\hs.length=i/\all.length<=300+4096*i/\(-4096*(i:Int)<=lv/\lv<=1792)) ?_ qs.length n _ _ ⟨0,0,0,0,2,pa,none,Cn,[],[],(pX l:Int),rfl,.inr rfl,cN _,AC,nB,.nil ajK,rfl,rfl,Bf,λb hb cZ=>(by cases cZ),λb hb=>⟨Pb b hb,λcZ=>by cases cZ⟩,by rw[dF],rfl,AC,AC⟩ AC;clear Pb nB Bf KE he7;rintro c2 y2 u ⟨i,za,zb,zc,zh,pa,ph,all,hs,hd,lv,rfl,hzh,hi,O8,nB,hoh,sB,hho,Bf,vo,jE,Bh,hhi,alI,eQ⟩ dP mW;rw[fh];unfold zz;simp only[au,Zh 2 za none _ (.inr rfl),Zh 1 zb none _ (.inr rfl),Zh 1 zc none _ (.inr rfl),aZ,ao];rw[fh];simp only[au,Zh 2 zh ph _ hzh,aZ,ao];by_cases av:i<qs.length
 .have da:qs[i]? =some qs[i]:=cc av
  have gr:qs.drop i=qs[i]::qs.drop (i+1):=iR av;have PK:=wu _ (jj av);generalize qs[i]=q at da gr PK;have hQu:=hq6.mono nB.1;obtain⟨i7,o7,rfl⟩:=hQu.cS (by rw[Js wu];omega);rw[gr]at Bh;rw[aR];refine Ok.join λjb ai3=>?_
  rw[bh,Zc (Zi av)];simp only[bn];rw[show i*14+o7+2=i*14+2+o7 by omega,hQu.yU (k:=i*14+2) (n:=12) (by rw[Js wu];omega),ZyB wu da,bN (by rw[Zz];exact PK.1)];refine Ok.call (Zpa n im q.cF u YS PK.1 AC) ?_;rintro o ⟨u1,KJ,ho⟩;have Pz:=nB.mono KJ;have eH:je im x.used l (q::qs.drop (i+1)) hs all lv=(match wc im q.cF with
   |none=>none
   |some (es,ns)=>bif jP x.used l es ns then je im x.used l (qs.drop (i+1)) (hs++[⟨q.name,kt es⟩]) (all++ns) (lv-es.length)else none):=rfl
  have fail: ∀u',aB s4 u'->je im x.used l (q::qs.drop (i+1)) hs all lv=none->Ok (vR st R) ((cw st.length [.agg [.i 0,.i 0,.i 0,.slice 0 none 0,.slice 0 none 0,.slice 0 none 0],.slice 0 none 0,.bool false]:M ah) u'):=λu' hp hf=>OA u' hp (by rw[Bh,hf]at hR;exact hR.symm)
  cases XZ:wc im q.cF with
  |none=>
   rw[XZ]at ho eH;simp only at ho;subst ho;refine⟨_,u1,rfl,?_⟩;simp only[Zh 4 0 none _ (.inr rfl),Zh 1 0 none _ (.inr rfl),ar,ao];rw[bD,ae];exact fail u1 Pz.1 eH
  |some qq=>
  have⟨es,ns⟩:=qq;rw[XZ]at ho eH;obtain⟨p68,p69,rfl,hE,hN,hNn,hEn⟩:=ho;simp only at eH;refine⟨_,u1,rfl,?_⟩;simp only[aZ,ar,ao];rw[bI,af];have⟨fo1,fo2,fo3⟩:=ZwC XZ PK.1;have hL1:=hL.mono Pz.1;refine Ok.join λjc adn=>?_
  refine Zj _ (λc y v=>∃(k za zb zc:Nat),y=[.agg (zz za zb zc),.i (k:Int)]/\k<=es.length/\es.length-k<=c/\v=u1/\jP x.used l es ns=jP x.used l (es.drop k) (ns.drop k)) ?_ es.length n _ _ ⟨0,2,1,1,rfl,cN _,AC,rfl,by rw[dF,dF]⟩ AC;rintro c3 y3 v ⟨k,za,zb,zc,rfl,hk,kU,rfl,pP⟩ wP PM;rw[fh];unfold zz;simp only[au,Zh 2 za none _ (.inr rfl),Zh 1 zb none _ (.inr rfl),Zh 1 zc none _ (.inr rfl),ao];by_cases fM:k<es.length
  .have mT:es[k]? =some es[k]:=cc fM
   have Pd:=fo1 _ (jj fM);generalize es[k]=e at mT Pd;have sA:ns[k]? =some (ns.getD k 0):=by
    rw[cc AC,cz,cc AC];rfl
   have adg:(ints ns)[k]? =some (.i (ns.getD k 0)):=Ao;generalize ns.getD k 0=w at sA adg;have Pg:=Zxj x.used l mT sA;rw[Pg]at pP;have⟨i10,o10,e68⟩:=hE.cS (by rw[Zt];omega);have⟨i12,o12,e69⟩:=hN.cS (by rw[Zz];omega);rw[e68]at hE;rw[e69]at hN;rw[aR,e68,bh,Zc (Zi fM)];simp only[bn];rw[hE.yU (k:=k*4) (n:=2) (by rw[Zt];omega),Zy5 mT];simp only[au,ao];rw[Za];have LS:kz x.used l e w=false->Ok (vR st R) ((cw st.length [.agg [.i 0,.i 0,.i 0,.slice 0 none 0,.slice 0 none 0,.slice 0 none 0],.slice 0 none 0,.bool false]:M ah) v):=λhb=>by
    rw[hb,af]at pP;rw[pP,af]at eH;exact fail v Pz.1 eH
   by_cases C8:e.slot>=x.used
   .rw[aR C8]
    simp only[ar,ao];rw[ae];exact LS (by unfold kz;rw[aQ C8];rfl)
   .have⟨sl,dR⟩: ∃sl:Nat,e.slot=(sl:Int):=⟨e.slot.toNat,AC⟩
    have aj6:sl<l.length:=AC
    have YM:l[sl]? =some l[sl]:=cc aj6;generalize l[sl]=s at YM;have⟨pi,po,e1,_,_,ldc⟩:=Fe v sl s hL1 YM;have tX:kz x.used l e w=((s.live==true)&&((s.gen==e.gen)&&((s.block==w)&&true))):=by
     unfold kz;rw[bP C8,dR,bn,YM];rfl
    rw[aU C8,e1,bh,dR,Zc (Zi)];simp only[bn];rw[ldc];unfold eZ;simp only[ar,au,ao];rw[e69,bh,Zc (Zi (AC:k<ns.length)),hN.dX adg];simp only[bg,ar,ao];rw[<-tX];cases ac4:kz x.used l e w
    .rw[bD,ae];exact LS ac4
    .rw[ac4,ae]at pP;rw[bI,af,Zb];exact PM (es.length-(k+1)) _ _ AC ⟨k+1,2,1,1,rfl,AC,aJ _,rfl,pP⟩
  rw[aU,adn];rw[lx AC]at pP;have aiL:jP x.used l es ns=true:=pP;rw[aiL,ae]at eH;clear PM wP adn jc pP;show Ok (vR st R) (bp [DV.agg _] _ v);rw[fh];simp only[au,aZ,ao];have r9: ∀K:ah->M ah,dV p69 (ns.length*1) K v=K (ints ns) v:=λK=>by
   have:=j9 hN K;rwa [Zz,<-cR ns.length]at this
  rw[r9];have ajB:=nB.qJ;have aam:=hoh.qJ;have adG:=Bf.qJ;have huv:=KJ.len;have⟨LA,u2,du,pO,cZ,ze⟩:=Pz.vb (Y:=ah) (sz:=1) (n:=all.length) (m:=ns.length) (lim:=8796093022208) (ds:=ints ns) AC (by rw[Zz,cR]) (by rw[Zz,cR]) AC;rw[ze];have amf:=pO.1;have hQ2:=hq6.mono du.1;have C0:(vE qs)[i*14]? =some (.str q.name):=by
   have:=Ob wu da 0 AC;rw[fE]at this;rw[this];rfl
  rw[bh,Zc (Zi av),hQ2.get C0];simp only[BI];have hE2:Sl u2 p68 (bW es):=hE.fx pO (AE λb hb cZ=>by have:=hEn b hb;have:=ajB b cZ;omega);refine Ok.XE (ZoX n es 4 p68 u2 (.inl rfl) hE2 AC AC) ?_;rintro _ ⟨zQ,u3,rfl,HB,Et,hSn⟩;refine⟨_,u3,rfl,HB,?_⟩;simp only[aZ,ao];have iM:aB u3 (u3++[some ⟨false,mS ⟨q.name,kt es⟩ 4 zQ⟩]):= .new _ _;have hhz:([.str q.name,.slice 4 zQ (kt es).length]:ah)=mS ⟨q.name,kt es⟩ 4 zQ:=rfl;rw[hhz,ZD,kq (f:=false) (all:=mS ⟨q.name,kt es⟩ 4 zQ) Do (by show 0+2<=2;omega),dF,dG (show(mS _ _ _).length<=2 from aJ _)];have adI:aB s4 u2:=du.1;have ajo:bc s4 (u3++[some ⟨false,mS ⟨q.name,kt es⟩ 4 zQ⟩]) ph hd:=(((hoh.mono KJ).yT pO (λb hb cZ=>vo b cZ hb) adI).mono HB).mono iM;have ajn:bc s4 (u3++[some ⟨false,mS ⟨q.name,kt es⟩ 4 zQ⟩]) ya (ints gs):=(((Bf.mono KJ).yT pO (λb hb cZ=>(jE b hb).1 cZ) adI).mono HB).mono iM;have⟨ph5,u5,rE,od,Eu,J9⟩:=ajo.vb (Y:=ah) (sz:=2) (n:=hs.length) (m:=1) (lim:=1759218604441) (ds:=mS ⟨q.name,kt es⟩ 4 zQ) AC sB rfl AC;rw[J9,ai3];have amc:=HB.len;have amd:=iM.len;have adF:=du.qJ;have hSl:=Et.qJ;have hFL:Fx (aM pa++aM ph) u u5:=(Fx.pre _ KJ).trans ((pO.mono λb hb=>Dy _ hb).trans ((Fx.pre _ (HB.trans iM)).trans (od.mono λb hb=>FC _ hb)));have acZ: ∀b∈aM LA,b∉aM ph:=λb hb pN=>by
   rcases cZ b hb with h1|h1
   .exact vo b h1 pN
   .have:=aam b pN;omega
  have ajk:bc s4 u5 LA (ints all++ints ns):=((du.mono HB).mono iM).yT od acZ rE.1;have aiX:=hho.fx (L':=aM LA++aM ph5) hFL λb hb=>by
   rcases ga.1 hb with hb|hb
   .rcases cZ b hb with h1|h1
    .exact .inl (Dy _ h1)
    omega
   .rcases Eu b hb with h1|h1
    .exact .inl (FC _ h1)
    omega
  have G7:Sl u5 zQ (bW (kt es)):=(Et.mono iM).fx od (AE λb hb pN=>by have:=hSn b hb;have:=aam b pN;omega);have aiY:=aiX.push (x:=⟨q.name,kt es⟩) (z:=4) (p:=zQ) (.inl rfl) G7 (AE λb hb pN=>by
   have h1:=hSn b hb;have h2:=hSl b hb;rcases ga.1 pN with pN|pN
   .have:=adF b pN;omega
   .rcases Eu b pN with h3|h3
    .have:=aam b h3;omega
    .omega)
  show Ok (vR st R) (bp [DV.agg _,DV.slice 1 LA _,DV.agg _,DV.int .i64 _] _ u5);rw[fh];simp only[au,aZ,ao];rw[fh];simp only[au,aZ,ao];rw[Zb (x:=lv-(es.length:Int)),Zb];refine mW (qs.length-(i+1)) _ _ AC ⟨i+1,2,1,1,2,LA,ph5,all++ns,hs++[⟨q.name,kt es⟩],hd++mS ⟨q.name,kt es⟩ 4 zQ,lv-es.length,?_,.inl rfl,AC,aJ _,by rw[NJ];exact ajk,rE,?_,aiY,ajn.yT od (λb hb pN=>(jE b hb).2 pN) rE.1,λb hb pN=>?_,λb hb=>⟨λpN=>?_,λpN=>?_⟩,?_,?_,?_,AC⟩
  .rw[ba,ba,iS]
   rfl
  .rw[ba,ba,iS,sB]
   show _+2=_;omega
  .rcases Eu b pN with h1|h1
   .exact acZ b hb h1
   .have:=adF b hb;omega
  .rcases cZ b pN with h1|h1
   .exact(jE b hb).1 h1
   .have:=adG b hb;omega
  .rcases Eu b pN with h1|h1
   .exact(jE b hb).2 h1
   .have:=adG b hb;omega
  .rw[Bh,eH]
  .rw[ba,iS,hhi]
  .rw[ba];omega
 rw[aU,CW];rw[lx AC]at Bh;have akj:je im x.used l qs [] Cn (pX l)=some (hs,all,lv):=Bh;rw[akj]at hR;simp only at hR;clear mW dP CW bG Bh;show Ok (vR st R) (bp [DV.agg _,DV.slice 1 pa _,DV.agg _,DV.int .i64 _] _ u);rw[fh];simp only[au,aZ,ao];rw[fh];simp only[au,aZ,ao];rw[ZD];have⟨u9,hu9⟩: ∃u9,u++[some (⟨false,[.i 0,.i 1]⟩:bQ)]=u9:=⟨_,rfl⟩;have aap:aB u u9:=by rw[<-hu9];exact .new _ _
 have hr9:Sl u9 (some (u.length,0)) (ints [0,1]):=⟨false,[.i 0,.i 1],by rw[<-hu9];simp,by simp[ints],by simp[ints]⟩;rw[hu9];refine Ok.join λcA CX=>?_
 refine Zj _ (λc y v=>∃(k za zb zc zr:Nat) (pr:ai) (r:ak),y=[.agg (zz za zb zc),.slice zr pr r.length,.i (k:Int)]/\(zr=1\/pr=none)/\k<=all.length/\all.length-k<=c/\aB u9 v/\Sl v pr (ints r)/\lZ r/\r.length<=k+2/\rf x.blocks all [0,1]=rf x.blocks (all.drop k) r) ?_ all.length n _ _ ⟨0,2,1,1,1,some (u.length,0),[0,1],rfl,.inl rfl,cN _,AC,.refl _,hr9,(by unfold lZ;simp),aJ _,by rw[dF]⟩ AC;rintro c4 y4 v ⟨k,za2,zb2,zc2,zr,pr,r,rfl,Lf,hk,kU,wI,EU,KU,C5,sK⟩ aV ajS;rw[fh];unfold zz;simp only[au,Zh 2 za2 none _ (.inr rfl),Zh 1 zb2 none _ (.inr rfl),Zh 1 zc2 none _ (.inr rfl),Zh 1 zr pr _ Lf,ao];have KK:aB s4 v:=nB.1.trans (aap.trans wI);have CI:=nB.sl.mono (aap.trans wI);by_cases fM:k<all.length
 .have gr:=Jx fM
  have⟨w,hw⟩: ∃w,all.getD k 0=w:=⟨_,rfl⟩;rw[hw]at gr;have sA:(ints all)[k]? =some (.i w):=by rw[<-hw];exact Ao fM
  have⟨i3,o3,e3⟩:=CI.cS (by rw[Zz];omega);rw[e3]at CI;rw[gr]at sK;have eH:rf x.blocks (w::all.drop (k+1)) r=bif decide (w<2)then none else(bif decide (w∈r)then none else rf x.blocks (all.drop (k+1)) (zG x.blocks r w)):=rfl;have fail:rf x.blocks (w::all.drop (k+1)) r=none->Ok (vR st R) ((cw st.length [.agg [.i 0,.i 0,.i 0,.slice 0 none 0,.slice 0 none 0,.slice 0 none 0],.slice 0 none 0,.bool false]:M ah) v):=λhf=>OA v KK (by rw[sK,hf]at hR;exact hR.symm)
  rw[aR,e3,bh,Zc (Zi fM)];simp only[bn];rw[CI.dX sA];simp only[bg];rw[Za];by_cases gB:w<2
  .rw[aR gB]at eH
   rw[aR gB];simp only[ar,ao];rw[ae];exact fail eH
  .rw[aU gB]at eH
   rw[aU gB,bh,Zc (Zi fM),CI.dX sA];simp only[bg];refine Ok.call (F6 n 1 r w pr v (.inl rfl) EU) ?_;rintro _ rfl;refine⟨_,v,rfl,?_⟩;simp only[ar,ao];cases hwr:decide (w∈r)
   .rw[hwr,af]at eH;rw[af,bh,Zc (Zi fM),CI.dX sA];simp only[bg];refine Ok.call (ZmV n r 1 pr x.blocks w v (.inl rfl) EU KU) ?_;rintro _ ⟨p2,r2,v2,rfl,ajL,ajZ,iH,eG⟩;refine⟨_,v2,rfl,?_⟩;simp only[aZ,ao];have⟨c1,c2⟩:=N6 (m:=x.blocks) (a:=w) KU;have ajQ:r2=zG x.blocks r w:=F9 iH c1 λb=>by rw[eG,c2]
    have ajR:r2.length<=(w::r).length:=B4 iH.nodup λb hb=>by
     rcases(eG b).1 hb with h1|h1
     .exact tj _ h1
     .rw[h1.1];exact pz
    rw[cQ]at ajR;rw[Zb];exact ajS (all.length-(k+1)) _ _ AC ⟨k+1,2,1,1,1,p2,r2,rfl,.inl rfl,AC,aJ _,wI.trans ajL,ajZ,iH,AC,by rw[sK,eH,ajQ]⟩
   .rw[hwr,ae]at eH;rw[ae];exact fail eH
 rw[aU,CX];rw[lx AC]at sK;have ajT:rf x.blocks all [0,1]=some r:=sK;rw[ajT]at hR;simp only at hR;show Ok (vR st R) (bp [DV.agg _,DV.slice 1 pr _] _ v);rw[fh];simp only[au,aZ,ao];rw[Za,Zb (x:=(all.length:Int)+2)];have adN:((r.length:Int)==(all.length:Int)+2)=decide (r.length=all.length+2):=pJ r.length (all.length+2) _;cases adp:(lv==0)
 .rw[adp,af]at hR;rw[bD,ae];simp only[ar,ao];rw[ae];exact OA v KK hR.symm
 .rw[adp,ae]at hR;rw[bI,af,adN];simp only[ar,ao];cases j1:decide (r.length=all.length+2)
  .rw[j1,af]at hR;rw[bD,ae];exact OA v KK hR.symm
  .rw[j1,ae]at hR;rw[bI,af,Zs];refine .mk ⟨_,Zx (aaj.trans KK),?_⟩;rw[<-hR];have aaq:=aap.trans wI;have hhh:=hho.aD.mono aaq;refine⟨2,ph,ya,pf,pr,rfl,.inl rfl,⟨⟨hd,(hoh.sl.mono aaq).gk _,?_⟩,(Bf.sl.mono aaq).gk _,(hFs.mono KK).gk _⟩,EU.gk _⟩;exact Zrw _ hhh
