/- Numbers and blocks, read (the document's). -/
import Derived.Test.YtegglibipjjblaaGreatDoorGvZMg
set_option linter.all false
namespace Go.Gv.F
open Go.Gv
variable {β:Type}
variable {Bd:Zh} [h:HA Bd]
theorem Zpx (n:Nat) (s:aj) (st:St) (hl:s.length<=8) (hn:s.length+3<=n):Ok (λo=>o=(.val [.w (eG s:Int)],st)) (run Bd n 310 [.str s] st):=by
 obtain _|n:=n;omega;rw[Ze,h.ag1];unfold RW jU Co Ar lE ZA
 try dsimp only
 rw[bT,aq];refine Ok.join λay mK=>?_
 have key: ∀i,i<=s.length->eG (s.drop i)<256^(s.length-i):=λi hi=>by
  have:=GB (s.drop i);rwa [eH]at this
 refine Zj _ (λq y t=>∃i:Nat,y=[.w ((eG (s.drop i):Nat):Int),.i ((i:Int)-1)]/\i<=s.length/\i<=q/\t=st) ?_ s.length n _ _ ⟨s.length,by rw[List.drop_length,Zc];rfl,aM _,aM _,rfl⟩ AC;rintro q y t ⟨i,rfl,hi,hq,rfl⟩ rec aL;simp only[av,aq];by_cases h0:i=0
 .subst h0
  rw[aZ,mK];simp only[av,aq,Zd];exact .mk rfl
 .rw[aX,Za,aX]
  obtain⟨j,rfl⟩: ∃j,i=j+1:=⟨i-1,AC⟩;have hj:j<s.length:=AC
  rw[show((j+1:Nat):Int)-1=(j:Int) by omega,Zb (Zi hj)];simp only[av,aq];have hd:s.drop j=s[j]::s.drop (j+1):=jd hj;have aw:=key (j+1) AC;have hp:256^(s.length-(j+1))<=256^7:=oh EQ AC;have h7:(256:Nat)^7=72057594037927936:=EQ
  have hb:ZV s (j:Int)=(s[j].toNat:Int):=by
   unfold ZV;rw[br,ef,cu hj];rfl
  have hsj:=s[j].toNat_lt;rw[hb,IntWalk.u64_in (((eG (s.drop (j+1)):Nat):Int)*256) AC,IntWalk.u64_in (s[j].toNat:Int) AC,IntWalk.u64_in _ AC,Zc];refine aL j _ _ AC ⟨j,?_,AC,aM _,rfl⟩;rw[hd];show _=[DV.int .u64 ((s[j].toNat+256*eG (s.drop (j+1)):Nat):Int),_];rw[show((eG (s.drop (j+1)):Nat):Int)*256+(s[j].toNat:Int)=((s[j].toNat+256*eG (s.drop (j+1)):Nat):Int) by omega]
theorem yc (n:Nat) (s:aj) (st:St) (hl:s.length<=8) (hn:12<=n:=by omega):run Bd n 292 [.str s] st=some (.val [.i (ar (eG s:Int))],st):=by
 obtain _|n:=n;omega;rw[Ze,h.agO];unfold Uo jU vv Ls Li
 try dsimp only
 rw[bT,aq];obtain⟨o,e,rfl⟩:=Zpx n s st hl AC;rw[Zk e];rfl
variable {m top w:Int} {l:List bB} {es:List bm} {d i j k k' lim n t t' v:Nat} {s s' s0:St} {cs ds:ah} {b' img:aj} {ns pg r:ak} {T:al} {e:bm}
theorem Ay (b:aj) {a:Nat} :ar ((eG ((b.take (a+k)).drop a):Nat):Int)=bR b a k:=by
 simp[bR,rd,BD]
theorem Az {b:aj} {a:Nat} (hk:k<=8:=by omega):((b.take (a+k)).drop a).length<=8:=by
 rw[eH,cR];omega
theorem Zwm {l:aj} (rU:l.length=64) (h4:l.getD 4 0≠0):(ja ((l.getD 4 0).toNat:Nat) ((l.getD 5 0).toNat:Nat) (l.drop 8)==l)=uo l:=by
 rw[lS,va];constructor
 .intro e
  have hk:0<(l.getD 4 0).toNat:=by
   rcases BI (l.getD 4 0).toNat with h|h
   .exact absurd (Ii.1 Fd) h4
   .exact h
  have:=Nq hk (UInt8.toNat_lt _) (UInt8.toNat_lt (l.getD 5 0)) (b:=l.drop 8) (by rw[eH];omega);rw[e]at this;grind[fU]
 .intro hr
  have:fU l=some ((l.getD 4 0).toNat,(l.getD 5 0).toNat,l.drop 8):=by
   grind[fU]
  exact(sP this).1.symm
def zF (l:aj):ah:=match fU l with
 |none=>[.i 0,.i 0,.str [],.bool false]
 |some (k,t,b)=>[.i (k:Int),.i (t:Int),.str b,.bool true]
theorem F7 (n:Nat) (p:ai) (l:aj) (st:St) (hs:c9 st p l) (hl:l.length=64) (hn:300<=n:=by omega):
  Ok (λo=>∃s',o=(.val (zF l),s')/\aA st s') (run Bd n 291 [.slice 1 p 64] st):=by
 obtain _|n:=n;omega;rw[Ze,h.agN];unfold T3 bZ az mc jI Lb qm
 try dsimp only
 rw[aV,aq];obtain⟨i,o,rfl⟩:=hs.cF AC;have g4:l[4]? =some (l.getD 4 0):=by rw[ef,cu AC];rfl
 have g5:l[5]? =some (l.getD 5 0):=by rw[ef,cu AC];rfl
 have hw: ∀c:UInt8,ar (c.toNat:Int)=(c.toNat:Int):=λc=>by
  have:=c.toNat_lt;exact Zc
 have ld4: ∀(K:DV->M ah) (t:St),c9 t (some (i,o)) l->bD i (4+o) K t=K (.u (l.getD 4 0).toNat) t:=λK t ht=>ht.get g4 K
 have ld5: ∀(K:DV->M ah) (t:St),c9 t (some (i,o)) l->bD i (5+o) K t=K (.u (l.getD 5 0).toNat) t:=λK t ht=>ht.get g5 K
 have r8: ∀(K:ah->M ah) (t:St),c9 t (some (i,o)) l->dx (cK true (some (i,o)) 8) (64-8) K t=K (bI (l.drop 8)) t:=λK t ht=>by
  have h8:=ht.cK (k:=8) AC;have:=iC (show Sl _ _ (bI (l.drop 8))from h8) K;rwa [Zs,eH,hl]at this
 have rl: ∀(K:ah->M ah) (t:St),c9 t (some (i,o)) l->dx (some (i,o)) 64 K t=K (bI l) t:=λK t ht=>by
  have:=iC (show Sl _ _ (bI l)from ht) K;rwa [Zs,hl]at this
 have bad:uo l=false->∀s',aA st s'->Ok (λo=>∃s',o=(.val (zF l),s')/\aA st s') ((ax [.i 0,.i 0,.str (bs []),.bool false]:M ah) s'):=λhr s' hp=>by
  rw[Zd];refine .mk ⟨s',?_,hp⟩;grind[zF,fU]
 rw[Za,oz FS,bc,Zb FS,ld4 _ _ hs];simp only[bj,au,aq];rw[Za];by_cases h4:l.getD 4 0=0
 .rw[h4,oA FS]
  simp only[au,aq];rw[ae];refine bad ?_ st (.refl _);grind[uo]
 .have h40:((((l.getD 4 0).toNat:Nat):Int)==0)=false:=eN.2 λe=>h4 (Ii.1 Fd)
  rw[h40,af,bc,Zb FS,ld4 _ _ hs,bj,bc,Zb FS,ld5 _ _ hs,bj,Zb (aS AC),r8 _ _ hs,<-lH,rf,hw,hw];refine Ok.cx (BZ n _ _ (l.drop 8) (by rw[eH];omega) st (by rw[eH];omega)) λs1 aD=>?_
  have eY:=hs.mono aD;rw[bT,aq,rl _ _ eY,<-lH,rf,Zwm hl h4];simp only[au,aq];cases hr:uo l with
  |false=>
   rw[bp,ae];exact bad hr s1 aD
  |true=>
   rw[bw,af,bc,Zb (show aP 4 64=true from rfl),ld4 _ _ eY,bj,bc,Zb (show aP 5 64=true from rfl),ld5 _ _ eY,bj,Zb (aS AC),r8 _ _ eY,<-lH,rf,hw,hw,Zd];refine .mk ⟨s1,?_,aD⟩;unfold zF fU;rw[hr];rfl
theorem Gu {b:aj} (mg:0<k) (hk:k<256) (ht:t<256) (aiv:0<k') (nM:k'<256) (xu:t'<256) (h:b.length<=56) (h':b'.length<=56:=by omega):ja k t b=ja k' t' b'↔k=k'/\t=t'/\j3 b 56=j3 b' 56:=by
 constructor
 .intro e
  have h1:=Nq mg hk ht h;rw[e,Nq aiv nM xu h']at h1;grind
 .grind[ja,qb]
theorem I5 {b:aj} (h:b.length=56):j3 b 56=b:=by
 simp_all[j3,l9]
theorem Jd {b:aj} (h:b.length=56) (hn:n<=56:=by omega):j3 (b.take n) 56=b↔ZD (b.drop n)=true:=by
 have hl:(b.take n).length=n:=by rw[cR];omega
 have hd:(b.drop n).length=56-n:=by rw[eH];omega
 unfold j3;rw[hl];constructor
 .intro e
  have:b.drop n=l9 (56-n):=by
   have h1:=oX n b;rw[<-e]at h1;grind
  rw[this];exact ZkG _
 .intro e
  have:=U0 e;rw[hd]at this;rw[<-this,oX]
theorem ZAo (h:v<18446744073709551616):fm (ar (v:Int))=v:=by
 grind[fm,ar,IntKind.wrap_i64]
theorem qB {b:aj} {a:Nat} (hk:k<=8:=by omega) (h:a+k<=b.length:=by omega):cZ (fm (bR b a k)) k=(b.drop a).take k:=by
 unfold bR;have aw:=Qk b a k;have hp:256^k<=256^8:=oh EQ hk;have h8:(256:Nat)^8=18446744073709551616:=EQ
 rw[ZAo AC];unfold rd;have hl:((b.drop a).take k).length=k:=by rw[cR,eH];omega
 have:=NC ((b.drop a).take k);rwa [hl]at this
theorem Zq9 (b:aj) (a m k:Nat):(b.drop a).take m++(b.drop (a+m)).take k=(b.drop a).take (m+k):=by
 rw[nx,jG]
theorem II {b:aj} {a:Nat} : ∀(n:Nat),a+2*n<=b.length->jB ((List.range n).map λj=>bR b (a+2*j) 2)=(b.drop a).take (2*n)
 |0,_=>rfl
 |n+1,h=>by
  have e:jB ((List.range (n+1)).map λj=>bR b (a+2*j) 2)=jB ((List.range n).map λj=>bR b (a+2*j) 2)++cZ (fm (bR b (a+2*n) 2)) 2:=by
   simp[jB,qW,fB,H7]
  rw[e,II n AC,qB,Zq9,show 2*n+2=2*(n+1) by omega]
theorem ZsF {b:aj} (h:2*n<=b.length:=by omega):jB (dZ b n)=b.take (2*n):=by
 have:=II (b:=b) (a:=0) n AC;rw[dE]at this;rw[<-this];simp[dZ]
theorem Zo0 {b:aj} (t:Nat): ∀(n:Nat),8*n<=b.length->ow (ZU b t n)=b.take (8*n)
 |0,_=>rfl
 |n+1,h=>by
  have app: ∀(l:List bB) (x:bB),ow (l++[x])=ow l++(cZ (fm x.gen) 4++cZ (fm x.block) 4):=λl x=>by
   induction l with
   |nil=>simp[ow]
   |cons y l ih=>simp[ow,ih]
  rw[IK,app,Zo0 t n AC];show _++(cZ (fm (bR b (8*n) 4)) 4++cZ (fm (bR b (8*n+4) 4)) 4)=_;rw[qB,qB,Zq9 b (8*n) 4 4,show 8*(n+1)=8*n+8 by omega];grind
theorem ZsE: ∀(l:List bB) (x:bB) (k:Nat),kt k (l++[x])=kt k l+(bif x.live then 2^(k+l.length)else 0)
 |[],x,k=>by simp[kt]
 |y::l,x,k=>by
  rw[od];unfold kt;rw[ZsE l x (k+1),cQ,show k+1+l.length=k+(l.length+1) by omega];omega
theorem ZsM (b:aj) (t:Nat): ∀n,kt 0 (ZU b t n)=t%2^n
 |0=>by simp[ZU,kt,Nat.mod_one]
 |n+1=>by
  rw[IK,ZsE,ZsM b t n,B5,eJ];show t%2^n+(bif eI t n then 2^n else 0)=_;have h:=Nat.mod_pow_succ (b:=2) (k:=n) (x:=t);rw[h];grind[eI]
theorem Zx3 {b:aj} (h:b.length=56) (ht:t<=12):P8 (mA b t)=b.take (24+2*t):=by
 unfold P8 mA pI;simp only;rw[qB,qB,qB,qB,II t AC,dE];have e1:b.take 8++(b.drop 8).take 8=b.take 16:=by rw[<-nx]
 have e2:b.take 16++(b.drop 16).take 4=b.take 20:=by rw[<-nx]
 have e3:b.take 20++(b.drop 20).take 4=b.take 24:=by rw[<-nx]
 rw[e1,e2,e3,<-nx]
theorem ZvB {b:aj} (h:b.length=56) (ht:t<=28):cZ (fm ((jY b t).mask:Int)) 4++jB (jY b t).dH++(jY b t).name=b.take (28+t):=by
 unfold jY ZY;simp only;have aw:=Qk b 0 4;have e0:((rd b 0 4:Nat):Int)=bR b 0 4:=by
  unfold bR;exact(Zc AC (by have:(256:Nat)^4=4294967296:=EQ;omega)).symm
 rw[e0,qB,II 12 AC,dE];have e1:b.take 4++(b.drop 4).take (2*12)=b.take 28:=by rw[<-nx]
 rw[e1,<-nx]
theorem Zna (k:Int):jZ k=lF k 2 3071:=by
 simp[jZ,lF]
theorem ZvG (x:bB):xL x=ZN x:=by
 unfold xL ZN;rw[Zna];cases x.live with
 |true=>
  rw[ae,ae];grind[lF]
 |false=>
  rw[af,af];grind[lF]
theorem Zxi {l b:aj} (ho:fU l=some (3,t,b)):iU l=(bif (match vx (dZ b 16)with|none=>false|some c=>c==l)then some (dZ b 16)else none):=by
 have⟨h1,h2,h3,h4⟩:=sP ho;have hr:Cc (dZ b 16)=(dZ b 16).all λk=>k==0||jZ k:=by
  simp[Cc,Zna]
 unfold iU vx;rw[ho,<-hr];simp only;cases hrf:Cc (dZ b 16)with
 |false=>
  rw[af,af];simp
 |true=>
  rw[ae,ae];have key:(ja 3 0 (jB (dZ b 16))==l)=(decide (t=0)&&ZD (b.drop 32)):=by
   rw[ZsF,lS,va,aY,bn]
   conv=>lhs;rhs;rw[h1]
   have:=Gu (k:=3) (t:=0) (k':=3) (t':=t) (b:=b.take (2*16)) (b':=b) AC AC AC AC AC h4 (by rw[cR];omega);rw[show((3:Nat):Int)=3 from rfl,show((0:Nat):Int)=0 from rfl]at this;rw[show((3:Nat):Int)=3 from rfl,this,I5 h2,Jd h2];grind
  grind
theorem Zwe {l b:aj} (ho:fU l=some (2,t,b)):ZO l=(bif (match yo (ZU b t 7)with|none=>false|some c=>c==l)then some (ZU b t 7)else none):=by
 have⟨h1,h2,h3,h4⟩:=sP ho;have hr:(ZU b t 7).all ZN=(ZU b t 7).all xL:=by
  grind[ZvG]
 unfold ZO yo;rw[ho];simp only;rw[hr];cases hrf:(ZU b t 7).all xL with
 |false=>
  rw[af,af];simp
 |true=>
  rw[ae,ae];have key:(ja 2 ((kt 0 (ZU b t 7):Nat):Int) (ow (ZU b t 7))==l)=decide (t<128):=by
   rw[Zo0 t 7 AC,ZsM,lS,va,bn]
   conv=>lhs;rhs;rw[h1]
   have:=Gu (k:=2) (t:=t%2^7) (k':=2) (t':=t) (b:=b.take (8*7)) (b':=b) AC AC AC AC AC h4 (by rw[cR];omega);rw[show((2:Nat):Int)=2 from rfl]at this;rw[show((2:Nat):Int)=2 from rfl,this,dF (AC:b.length<=8*7)];simp
  grind
theorem ZvS {l b:aj} (ho:fU l=some (1,t,b)) (ht:t<=12):jf l=(bif pH (mA b t)&&xJ (mA b t)==l then some (mA b t)else none):=by
 have⟨h1,h2,h3,h4⟩:=sP ho;have key:(xJ (mA b t)==l)=ZD (b.drop (24+2*t)):=by
  have gm:(mA b t).kids.length=t:=DW b t;unfold xJ;rw[Zx3 h2 ht,gm,lS,va]
  conv=>lhs;rhs;rw[h1]
  have:=Gu (k:=1) (t:=t) (k':=1) (t':=t) (b:=b.take (24+2*t)) (b':=b) AC AC h4 AC AC h4 (by rw[cR];omega);rw[show((1:Nat):Int)=1 from rfl]at this;rw[show((1:Nat):Int)=1 from rfl,this,I5 h2,Jd h2];simp
 grind[jf]
theorem Zuv {l b:aj} (ho:fU l=some (5,t,b)) (ht:t<=28):ZL l=(bif na (jY b t)&&zI (jY b t)==l then some (jY b t)else none):=by
 have⟨h1,h2,h3,h4⟩:=sP ho;have Pk:(jY b t).name.length=t:=by
  show((b.drop 28).take t).length=t;rw[cR,eH];omega
 have key:(zI (jY b t)==l)=ZD (b.drop (28+t)):=by
  unfold zI;rw[ZvB h2 ht,Pk,lS,va]
  conv=>lhs;rhs;rw[h1]
  have:=Gu (k:=5) (t:=t) (k':=5) (t':=t) (b:=b.take (28+t)) (b':=b) AC AC h4 AC AC h4 (by rw[cR];omega);rw[show((5:Nat):Int)=5 from rfl]at this;rw[show((5:Nat):Int)=5 from rfl,this,I5 h2,Jd h2];simp
 unfold ZL;rw[ho,key];simp only;cases hr:na (jY b t)with
 |false=>
  rw[af,gu,af];simp
 |true=>
  have h24:t<=24:=by
   have h5:=hr;unfold na at h5;rw[aY]at h5;have:=Zv8 h5.1;omega
  rw[aS h24];simp
theorem ZxM (l:ak):D8 l=(decide (1<=l.length)&&(decide (l.length<=16)&&th l l.length)):=by
 have key: ∀n,n<=l.length->((List.range n).all λi=>sU (l.getD i 0)&& !decide (l.getD i 0∈l.take i))=th l n:=by
  intro n;induction n with
  |zero=>intro _;rfl
  |succ n ih=>
   intro hn;rw[qW,tT,ih AC];unfold th;have hb:sU (l.getD n 0)=jZ (l.getD n 0):=by
    grind[sU,jZ]
   rw[<-hb];grind[th]
 grind[D8]
theorem ZwZ {l b:aj} (ho:fU l=some (6,t,b)) (ht:t<=16):lG l=(bif (match yw (dZ b t)with|none=>false|some c=>c==l)then some (dZ b t)else none):=by
 have⟨h1,h2,h3,h4⟩:=sP ho;have key:(ja 6 ((dZ b t).length:Int) (jB (dZ b t))==l)=ZD (b.drop (2*t)):=by
  rw[ZsF,om,lS,va]
  conv=>lhs;rhs;rw[h1]
  have:=Gu (k:=6) (t:=t) (k':=6) (t':=t) (b:=b.take (2*t)) (b':=b) AC AC h4 AC AC h4 (by rw[cR];omega);rw[show((6:Nat):Int)=6 from rfl]at this;rw[show((6:Nat):Int)=6 from rfl,this,I5 h2,Jd h2];simp
 unfold lG yw;rw[ho];simp only;rw[ZxM,aS ht];grind
theorem ZoR (n:Nat) (p:ai) (l:aj) (st:St) (hs:c9 st p l) (hl:l.length=64) (hn:500<=n):
  Ok (λo=>∃s',aA st s'/\match iU l with
   |none=>o=(.val [.agg (ints (List.replicate 16 0)),.bool false],s')
   |some x=>o=(.val [.agg (ints x),.bool true],s')/\x.length=16) (run Bd n 308 [.slice 1 p 64] st):=by
 obtain _|n:=n;omega;rw[Ze,h.agZ];unfold Sp bZ vy az ve cW cA ba Lb Ls Li
 try dsimp only
 rw[aV,aq];refine Ok.cv (F7 n p l st hs hl) λs1 aD=>?_
 have eY:=hs.mono aD;have⟨Q,hQ⟩: ∃Q:Out ah×St->Prop,(λo=>∃s',aA st s'/\match iU l with
   |none=>o=(.val [.agg (ints (List.replicate 16 0)),.bool false],s')
   |some x=>o=(.val [.agg (ints x),.bool true],s')/\x.length=16)=Q:=⟨_,rfl⟩
 have bad: ∀s',aA st s'->iU l=none->Ok Q ((ax [.agg (List.replicate 16 (.i 0)),.bool false]:M ah) s'):=λs' hp hg=>by
  rw[Zd,<-hQ];refine .mk ⟨s',hp,?_⟩;rw[hg];rfl
 rw[hQ];unfold zF;cases ho:fU l with
 |none=>
  simp only[av,bT,au,aq];rw[Za,bp,ae];simp only[au,aq];rw[ae];exact bad s1 aD (by unfold iU;rw[ho])
 |some q=>
  have⟨k,t,b⟩:=q;have⟨_,hb,_,_⟩:=sP ho;simp only[av,bT,au,aq];rw[Za,bw,af,nE k 3 3 rfl];simp only[au,aq];by_cases hk:k=3
  .subst hk
   rw[aS rfl,bw,af];refine Ok.join λaH j7=>?_
   refine Zj _ (λq y s=>∃i:Nat,y=[.agg (ints (dZ b i)++ints (List.replicate (16-i) 0)),.i i]/\i<=16/\16-i<=q/\s=s1) ?_ 16 n _ _ ⟨0,rfl,AC,AC,rfl⟩ AC;rintro q _ s ⟨i,rfl,hi,hq,rfl⟩ rec aL;have hlen:(ints (dZ b i)++ints (List.replicate (16-i) 0)).length=16:=by
    simp[ints,om];omega
   rw[da,av,aq,bK hlen];by_cases aw:i<16
   .have cM:ar ((i:Int)+1)=((i+1:Nat):Int):=Zc
    have jO:ar (2*(i:Int))=((2*i:Nat):Int):=Zc;have kh:ar (((2*i:Nat):Int)+2)=((2*i+2:Nat):Int):=Zc;simp only[cM,jO,kh,br,cS];rw[aX,Zb (by rw[aY,bn,bn];omega),Zb (by rw[aY,bn,bn];omega),Zk (yc n _ s (Az)),Ay,av,aq,Zb (show aP (i:Int) 16=true from Zi aw),Zb (gz AC)];refine aL (16-(i+1)) _ _ AC ⟨i+1,?_,AC,aM _,rfl⟩;congr 2;rw[MU,show List.replicate (16-i) (0:Int)=0::List.replicate (16-(i+1)) 0 by rw[show 16-i=(16-(i+1))+1 by omega];rfl];have e3:i=(ints (dZ b i)).length:=by simp[ints,om]
    have e4:=sV (ints (dZ b i)) [.i 0] (ints (List.replicate (16-(i+1)) 0)) [.i (bR b (2*i) 2)] rfl;rw[<-e3]at e4;show cG (ints (dZ b i)++([.i 0]++ints (List.replicate (16-(i+1)) 0))) i [.i (bR b (2*i) 2)]=ints (dZ b i++[bR b (2*i) 2])++_;rw[e4,show ints (dZ b i++[bR b (2*i) 2])=ints (dZ b i)++[.i (bR b (2*i) 2)] by unfold ints;rw[fB];rfl,fR]
   .rw[aZ]
    have qH:i=16:=AC
    subst qH;rw[show ints (dZ b 16)++ints (List.replicate (16-16) 0)=ints (dZ b 16)from gM _]at hlen⊢;subst j7;simp only[da,aq];rw[bK hlen];refine Ok.cv (TH n (dZ b 16) (om b 16) s) λs2 aU=>?_
    have cC:=Zxi ho;cases Dd:vx (dZ b 16)with
    |none=>
     rw[Dd]at cC;show Ok Q (fa [.str [],.bool false] _ s2);rw[bT,au,aq,Za,bp,ae];simp only[au,aq];rw[ae];exact bad s2 (aD.trans aU) cC
    |some c=>
     rw[Dd]at cC;simp only at cC;show Ok Q (fa [.str c,.bool true] _ s2);rw[bT,au,aq,Za,bw,af];have rl: ∀(K:ah->M ah),dx p 64 K s2=K (bI l) s2:=λK=>by
      have:=iC (show Sl _ _ (bI l)from eY.mono aU) K;rwa [Zs,hl]at this
     rw[rl,<-lH,rf];simp only[au,aq];cases cO:(c==l)with
     |false=>
      rw[cO]at cC;rw[bp,ae];exact bad s2 (aD.trans aU) cC
     |true=>
      rw[cO]at cC;rw[bw,af,bK hlen,Zd,<-hQ];refine .mk ⟨s2,aD.trans aU,?_⟩;rw[cC];exact⟨rfl,om b 16⟩
  .rw[bM hk,bp,ae]
   grind[iU]
theorem ZrS:(ca nS:ah)=[.bool false,.i 0,.i 0,.bool false,.i 0,.i 0,.bool false,.i 0,.i 0,.bool false,.i 0,.i 0,.bool false,.i 0,.i 0,.bool false,.i 0,.i 0,.bool false,.i 0,.i 0]:=rfl
theorem Zov (n:Nat) (p:ai) (l:aj) (st:St) (hs:c9 st p l) (hl:l.length=64) (hn:500<=n):
  Ok (λo=>∃s',aA st s'/\match ZO l with
   |none=>o=(.val [.agg (ca nS),.bool false],s')
   |some x=>o=(.val [.agg (ca x),.bool true],s')/\x.length=7) (run Bd n 309 [.slice 1 p 64] st):=by
 obtain _|n:=n;omega;rw[Ze,h.ag0];unfold Rv bZ vy az ve cW mq ba ZK Lb Ls sI DT
 try dsimp only
 rw[aV,aq,<-ZrS];refine Ok.cv (F7 n p l st hs hl) λs1 aD=>?_
 have eY:=hs.mono aD;have⟨Q,hQ⟩: ∃Q:Out ah×St->Prop,(λo=>∃s',aA st s'/\match ZO l with
   |none=>o=(.val [.agg (ca nS),.bool false],s')
   |some x=>o=(.val [.agg (ca x),.bool true],s')/\x.length=7)=Q:=⟨_,rfl⟩
 have bad: ∀s',aA st s'->ZO l=none->Ok Q ((ax [.agg (ca nS),.bool false]:M ah) s'):=λs' hp hg=>by
  rw[Zd,<-hQ];refine .mk ⟨s',hp,?_⟩;rw[hg]
 rw[hQ];unfold zF;cases ho:fU l with
 |none=>
  simp only[av,bT,au,aq];rw[Za,bp,ae];simp only[au,aq];rw[ae];exact bad s1 aD (by unfold ZO;rw[ho])
 |some q=>
  have⟨k,t,b⟩:=q;have⟨_,hb,_,ht⟩:=sP ho;simp only[av,bT,au,aq];rw[Za,bw,af,nE k 2 2 rfl];simp only[au,aq];by_cases hk:k=2
  .subst hk
   rw[aS rfl,bw,af];refine Ok.join λaH j7=>?_
   refine Zj _ (λq y s=>∃i:Nat,y=[.agg (ca (ZU b t i)++ca (List.replicate (7-i) gZ)),.i i]/\i<=7/\7-i<=q/\s=s1) ?_ 7 n _ _ ⟨0,rfl,AC,AC,rfl⟩ AC;rintro q _ s ⟨i,rfl,hi,hq,rfl⟩ rec aL;have hlen:(ca (ZU b t i)++ca (List.replicate (7-i) gZ)).length=21:=by
    rw[bz,ZB,ZB,B5,oV];omega
   rw[da,av,aq,bK hlen];by_cases aw:i<7
   .have cM:ar ((i:Int)+1)=((i+1:Nat):Int):=Zc
    have jO:ar (8*(i:Int))=((8*i:Nat):Int):=Zc;have kh:ar (((8*i:Nat):Int)+4)=((8*i+4:Nat):Int):=Zc;have p7:ar (((8*i:Nat):Int)+8)=((8*i+4+4:Nat):Int):=Zc;have aU:2^i<=2^6:=oh EQ AC;have hpp:=Nat.two_pow_pos i;have hw6:ar (1*2^(min i 64))=((2^i:Nat):Int):=by
     rw[og AC,Int.one_mul,show((2:Int)^i)=((2^i:Nat):Int) by simp];exact Zc
    simp only[cM,jO,kh,p7,br,hw6];have ahV:((ar ((t:Int).tdiv ((2^i:Nat):Int))).tmod 2==1)=eI t i:=by
     rw[show((t:Int).tdiv ((2^i:Nat):Int))=((t/2^i:Nat):Int)from rfl];unfold eI;have hd:t/2^i<=t:=FR _ _;generalize t/2^i=d at hd;rw[Zc,show(d:Int).tmod 2=((d%2:Nat):Int)from rfl];exact nE _ 1 1 rfl
    rw[aX,Zb (aS AC),Zb (by rw[eN.2 AC];rfl),Zb (by rw[aY,bn,bn];omega),Zb (by rw[aY,bn,bn];omega),wS (yc n _ s (Az)),Ay,av,aq,Zb (by rw[aY,bn,bn];omega),Zb (by rw[aY,bn,bn];omega),wS (yc n _ s (Az)),Ay,av,aq,ahV,Zb (show aP (i:Int) 7=true from Zi aw),Zb (gz AC)];refine aL (7-(i+1)) _ _ AC ⟨i+1,?_,AC,aM _,rfl⟩;congr 2;have e2:List.replicate (7-i) gZ=gZ::List.replicate (7-(i+1)) gZ:=by rw[show 7-i=(7-(i+1))+1 by omega];rfl
    have e3:i*3=(ca (ZU b t i)).length:=by rw[ZB,B5]
    have e4:=sV (ca (ZU b t i)) (eV gZ) (ca (List.replicate (7-(i+1)) gZ)) (eV (wU b t i)) rfl;rw[<-e3]at e4;rw[IK,Jc,e2];show cG (ca (ZU b t i)++(eV gZ++ca (List.replicate (7-(i+1)) gZ))) (i*3) (eV (wU b t i))=(ca (ZU b t i)++ca [wU b t i])++_;rw[e4,fR];congr 1
   .rw[aZ]
    have qH:i=7:=AC
    subst qH;rw[show ca (ZU b t 7)++ca (List.replicate (7-7) gZ)=ca (ZU b t 7)from gM _]at hlen⊢;subst j7;simp only[da,aq];rw[bK hlen];refine Ok.cv (ZlX n (ZU b t 7) (B5 b t 7) s) λs2 aU=>?_
    have cC:=Zwe ho;cases Dd:yo (ZU b t 7)with
    |none=>
     rw[Dd]at cC;show Ok Q (fa [.str [],.bool false] _ s2);rw[bT,au,aq,Za,bp,ae];simp only[au,aq];rw[ae];exact bad s2 (aD.trans aU) cC
    |some c=>
     rw[Dd]at cC;simp only at cC;show Ok Q (fa [.str c,.bool true] _ s2);rw[bT,au,aq,Za,bw,af];have rl: ∀(K:ah->M ah),dx p 64 K s2=K (bI l) s2:=λK=>by
      have:=iC (show Sl _ _ (bI l)from eY.mono aU) K;rwa [Zs,hl]at this
     rw[rl,<-lH,rf];simp only[au,aq];cases cO:(c==l)with
     |false=>
      rw[cO]at cC;rw[bp,ae];exact bad s2 (aD.trans aU) cC
     |true=>
      rw[cO]at cC;rw[bw,af,bK hlen,Zd,<-hQ];refine .mk ⟨s2,aD.trans aU,?_⟩;rw[cC];exact⟨rfl,B5 b t 7⟩
  .rw[bM hk,bp,ae]
   grind[ZO]
theorem ZwD (k:Int):Fs k= !jZ k:=by
 grind[Fs,jZ]
theorem Zxb (x:jV):pH x=((bif (bif (bif decide (x.bL.slot>=0)then decide (x.bL.slot<=1791)else false)then decide (x.bL.gen>=1)else false)then decide (x.bL.gen<=4294967295)else false)&&decide ((x.kids.length:Int)<=12)&&x.kids.all jZ):=by
 have hk:(!x.kids.any Fs)=x.kids.all jZ:=by
  rw[lS,lT,List.any_eq_false,wF];simp[ZwD]
 grind[pH]
theorem ZqY (n:Nat) (x:jV) (z:Nat) (p:ai) (st:St) (hz:z=1\/p=none) (hs:Sl st p (ints x.kids)) (hl:x.kids.length<1000) (hn:x.kids.length+10<=n):
  Ok (λo=>o=(.val [.bool (pH x)],st)) (run Bd n 319 [.agg (oP x z p)] st):=by
 obtain⟨n,rfl⟩: ∃m,n=m+2:=⟨n-2,AC⟩;rw[Ze,h.ag9];unfold SU Gf az cW Zn bu Lb Li Ad
 try dsimp only
 rw[dY];unfold oP fk;simp only[od,iG,av,Zf 1 z p _ hz,aq];refine Ok.join λay mK=>?_
 have go: ∀c:Bool,c=(bif (bif (bif decide (x.bL.slot>=0)then decide (x.bL.slot<=1791)else false)then decide (x.bL.gen>=1)else false)then decide (x.bL.gen<=4294967295)else false)->
   Ok (λo=>o=(.val [.bool (pH x)],st)) (cY (λaQ st=>
      gK st λDp st=>
      aC .i64 st λi st=>
      aI st<|
      cT (λst=>gK st λb5 st=>aI st<|
       bif b5 then
       bJ p λi1 o=>
      aB (aP i x.kids.length)<|
      bD i1 (i.toNat*1+o) λd=>
      de .i64 d λx=>
      cV (run Bd (n+1) 251 [.i x]) λds=>
      gK ds λx1 ds=>
      aI ds<|
      aQ [.bool x1,.i (ar (i+1))]
      else
       (ax [.bool Dp]:M ah)) λdA=>
      bif decide (i<(x.kids.length:Int))then
       dA [.bool Dp]
      else
       dA [.bool false]) (n+1) [.bool (c&&decide ((x.kids.length:Int)<=12)),.i 0] st):=λc hc=>by
  rw[Zxb,<-hc];generalize (c&&decide ((x.kids.length:Int)<=12))=e;refine Zj _ (λq y t=>∃i:Nat,y=[.bool (e&&(x.kids.take i).all jZ),.i (i:Int)]/\i<=x.kids.length/\x.kids.length-i<=q/\t=st) ?_ x.kids.length (n+1) _ _ Fd AC;rintro q y t ⟨i,rfl,hi,hq,rfl⟩ rec aL;rw[au,av,aq,Za];by_cases aw:i<x.kids.length
  .rw[aX]
   simp only[au,aq];have fM:x.kids.take (i+1)=x.kids.take i++[x.kids[i]]:=Do
   cases hb:(e&&(x.kids.take i).all jZ)with
   |true=>
    obtain⟨i1,o1,rfl⟩:=hs.cF (by simp[ints];omega);have di:(ints x.kids)[i]? =some (.i x.kids[i]):=ZC aw;rw[ae,bc,Zb (Zi aw),br,hs.dO di,bj,Zk (Iv n _ t),au,aq,Zc];refine aL (x.kids.length-(i+1)) _ _ AC ⟨i+1,?_,AC,aM _,rfl⟩;rw[aY]at hb;rw[fM,tT,hb.1,hb.2];simp
   |false=>
    rw[af,Zd];refine .mk ?_;grind
  .rw[aZ]
   simp only[au,aq];rw[af,dF AC,Zd];exact .mk rfl
 subst mK;cases h1:decide (x.bL.slot>=0)with
 |true=>
  rw[ae];simp only[au,aq];have:=go (bif (bif decide (x.bL.slot<=1791)then decide (x.bL.gen>=1)else false)then decide (x.bL.gen<=4294967295)else false) (by rw[h1];rfl);rw[Za];cases h2:decide (x.bL.slot<=1791)with
  |true=>
   rw[h2]at this;simp only[ae,au,aq,Za]at this⊢;grind
  |false=>
   rw[h2]at this;simp only[af,au,aq,Za,gu]at this⊢;exact this
 |false=>
  rw[af];have:=go false (by rw[h1];rfl);simp only[af,au,aq,Za,gu]at this⊢;exact this
theorem Zt3 (n:Nat) (p:ai) (l:aj) (st:St) (hs:c9 st p l) (hl:l.length=64) (hn:3000<=n):
  Ok (λo=>∃s',aA st s'/\match jf l with
   |none=>o=(.val [.agg [.i 0,.i 0,.i 0,.i 0,.slice 0 none 0],.bool false],s')
   |some x=>∃q,o=(.val [.agg (oP x 1 q),.bool true],s')/\Fz s' q (ints x.kids)) (run Bd n 311 [.slice 1 p 64] st):=by
 obtain _|n:=n;omega;rw[Ze,h.ag2];unfold TU bZ vy az tY Gc bu jI Gh mq ba BX Ls yj F5 Lb Li Gd Gi
 try dsimp only
 rw[aV,aq,ZJ];refine Ok.cv (F7 n p l st hs hl) λs1 aD=>?_
 have eY:=hs.mono aD;have⟨Q,hQ⟩: ∃Q:Out ah×St->Prop,(λo=>∃s',aA st s'/\match jf l with
   |none=>o=(.val [.agg [.i 0,.i 0,.i 0,.i 0,.slice 0 none 0],.bool false],s')
   |some x=>∃q,o=(.val [.agg (oP x 1 q),.bool true],s')/\Fz s' q (ints x.kids))=Q:=⟨_,rfl⟩
 have bad: ∀s',aA st s'->jf l=none->Ok Q ((cc st.length [.agg [.i 0,.i 0,.i 0,.i 0,.slice 0 none 0],.bool false]:M ah) s'):=λs' hp hg=>by
  rw[Zp,<-hQ];refine .mk ⟨_,Zq hp,?_⟩;rw[hg]
 rw[hQ];unfold zF;cases ho:fU l with
 |none=>
  simp only[av,bT,au,aq];rw[Za,bp,ae];simp only[au,aq];rw[Za,ae];simp only[au,aq];rw[ae];exact bad s1 aD (by unfold jf;rw[ho])
 |some q=>
  have⟨k,t,b⟩:=q;have⟨_,hb,_,ht⟩:=sP ho;simp only[av,bT,au,aq];rw[Za,bw,af,nE k 1 1 rfl];simp only[au,aq];rw[Za];by_cases hk:k=1
  .subst hk
   rw[aS rfl,bw,af];simp only[au,aq];by_cases Fg:t<=12
   .rw[aZ]
    have cC:=ZvS ho Fg;have rn: ∀(a c:Nat),c<=8->run Bd n 292 [.str ((b.take (a+c)).drop a)] s1=some (.val [.i (bR b a c)],s1):=λa c hc=>by
     rw[yc n _ s1 (Az hc),Ay]
    rw[Zb (aS AC),rj (rn 16 4 AC) (.refl _),av,aq,Zb (aS AC),rj (rn 20 4 AC) (.refl _),av,aq];have r0:run Bd n 292 [.str (b.take 8)] s1=some (.val [.i (bR b 0 8)],s1):=by
     have:=rn 0 8 AC;rwa [dE]at this
    rw[Zb (aS AC),rj r0 (.refl _),av,aq,Zb (aS AC),rj (rn 8 8 AC) (.refl _),av,aq];refine Ok.join λaW kW=>?_
    refine Zj _ (λq y s=>∃(i z:Nat) (pk:ai),y=[.agg [.i (bR b 16 4),.i (bR b 20 4),.i (bR b 0 8),.i (bR b 8 8),.slice z pk i],.i i]/\(z=1\/pk=none)/\i<=t/\t-i<=q/\bg st s pk (ints (pI b i))/\c9 s p l) ?_ t n _ _ ⟨0,0,none,rfl,.inr rfl,AC,AC,.nil aD,eY⟩ AC;rintro q _ s ⟨i,z,pk,rfl,hz,hi,hq,fF,vM⟩ rec aL;rw[dY];simp only[av,Zf 1 z pk _ hz,aq];have gm:(pI b i).length=i:=DW b i;have j6:(ints (pI b i)).length=i*1:=by simp[ints,gm]
    by_cases aw:i<t
    .have cM:ar ((i:Int)+1)=((i+1:Nat):Int):=Zc
     have jO:ar (2*(i:Int))=((2*i:Nat):Int):=Zc;have kh:ar (26+((2*i:Nat):Int))=((24+2*i+2:Nat):Int):=by rw[Zc];omega
     have p7:ar (24+((2*i:Nat):Int))=((24+2*i:Nat):Int):=by rw[Zc];omega
     simp only[cM,jO,kh,p7,br];rw[aX,Zb (by rw[aY,bn,bn];omega),Zb (by rw[aY,bn,bn];omega),wS (yc n _ s (Az (a:=24+2*i))),Ay,av,aq];have⟨q2,s2,dj,tt⟩:=fF.push (β:=ah) (sz:=1) (n:=i) (lim:=8796093022208) [.i (bR b (24+2*i) 2)] AC j6 rfl AC;rw[tt];refine aL (t-(i+1)) _ _ AC ⟨i+1,1,q2,rfl,.inl rfl,AC,aM _,?_,?_⟩
     .rw[ZnW,show ints (pI b i++[bR b (24+2*i) 2])=ints (pI b i)++[.i (bR b (24+2*i) 2)] by unfold ints;rw[fB];rfl]
      exact dj
     .exact hs.mono dj.1
    .rw[aZ]
     have Ba:i=t:=AC
     subst Ba;subst kW;show Ok Q (bh [DV.agg _] _ s);rw[dY];simp only[av,aV,aq];have dI:Sl s pk (ints (mA b i).kids):=fF.sl;have oH:(mA b i).kids.length=i:=gm;have mG:([.i (bR b 16 4),.i (bR b 20 4),.i (bR b 0 8),.i (bR b 8 8),.slice 1 pk i]:ah)=oP (mA b i) 1 pk:=by
      unfold oP fk mA;grind
     rw[mG];refine Ok.call (ZqY n (mA b i) 1 pk s (.inl rfl) dI AC AC) ?_;rintro _ rfl;refine⟨_,s,rfl,?_⟩;rw[au,aq,Za];cases hr:pH (mA b i)with
     |false=>
      rw[hr,gu,af]at cC;rw[bp,ae];simp only[au,aq];rw[ae];exact bad s fF.1 cC
     |true=>
      rw[hr,dL]at cC;rw[bw,af];refine Ok.cx (Zma n (mA b i) 1 pk s (.inl rfl) dI AC) λs2 aU=>?_
      rw[bT,aq];have rl: ∀(K:ah->M ah),dx p 64 K s2=K (bI l) s2:=λK=>by
       have:=iC (show Sl _ _ (bI l)from vM.mono aU) K;rwa [Zs,hl]at this
      rw[rl,<-lH,rf];simp only[au,aq];have sc:=fF.mono aU;cases cO:(xJ (mA b i)==l)with
      |false=>
       rw[cO]at cC;rw[bp,ae];exact bad s2 sc.1 cC
      |true=>
       rw[cO,ae]at cC;rw[bw,af,Zp,<-hQ];refine .mk ⟨_,Zq sc.1,?_⟩;rw[cC];exact⟨pk,rfl,sc.fz⟩
   .rw[aX]
    refine bad s1 aD ?_;unfold jf;rw[ho];grind
  .rw[bM hk,bp,ae]
   simp_all[jf]
theorem Zpy (n:Nat) (p:ai) (l:aj) (st:St) (hs:c9 st p l) (hl:l.length=64) (hn:3000<=n):
  Ok (λo=>∃s',aA st s'/\match lG l with
   |none=>o=(.val [.slice 0 none 0,.bool false],s')
   |some x=>∃q,o=(.val [.slice 1 q x.length,.bool true],s')/\Sl s' q (ints x)/\x.length<=16) (run Bd n 269 [.slice 1 p 64] st):=by
 obtain _|n:=n;omega;rw[Ze,h.agA];unfold RV bZ vy az fJ ve kB cA ba vi Lb Ls Li ep iH
 try dsimp only
 rw[aV,aq,ZJ];refine Ok.cv (F7 n p l st hs hl) λs1 aD=>?_
 have⟨Q,hQ⟩: ∃Q:Out ah×St->Prop,(λo=>∃s',aA st s'/\match lG l with
   |none=>o=(.val [.slice 0 none 0,.bool false],s')
   |some x=>∃q,o=(.val [.slice 1 q x.length,.bool true],s')/\Sl s' q (ints x)/\x.length<=16)=Q:=⟨_,rfl⟩
 have bad: ∀s',aA st s'->lG l=none->Ok Q ((cc st.length [.slice 0 none 0,.bool false]:M ah) s'):=λs' hp hg=>by
  rw[Zp,<-hQ];refine .mk ⟨_,Zq hp,?_⟩;rw[hg]
 rw[hQ];unfold zF;cases ho:fU l with
 |none=>
  simp only[av,bT,au,aq];rw[Za,bp,ae];simp only[au,aq];rw[Za,ae];simp only[au,aq];rw[ae];exact bad s1 aD (by unfold lG;rw[ho])
 |some q=>
  have⟨k,t,b⟩:=q;have⟨_,hb,_,ht⟩:=sP ho;simp only[av,bT,au,aq];rw[Za,bw,af,nE k 6 6 rfl];simp only[au,aq];rw[Za];by_cases hk:k=6
  .subst hk
   rw[aS rfl,bw,af];simp only[au,aq];by_cases Fg:t<=16
   .rw[aZ]
    have cC:=ZwZ ho Fg;refine Ok.join λaW kW=>?_
    refine Zj _ (λq y s=>∃(i z:Nat) (pk:ai),y=[.slice z pk i,.i i]/\(z=1\/pk=none)/\i<=t/\t-i<=q/\bg st s pk (ints (dZ b i))) ?_ t n _ _ ⟨0,0,none,rfl,.inr rfl,AC,AC,.nil aD⟩ AC;rintro q _ s ⟨i,z,pk,rfl,hz,hi,hq,fF⟩ rec aL;simp only[av,Zf 1 z pk _ hz,aq];have gm:(dZ b i).length=i:=om b i;have j6:(ints (dZ b i)).length=i*1:=by simp[ints,gm]
    by_cases aw:i<t
    .have cM:ar ((i:Int)+1)=((i+1:Nat):Int):=Zc
     have jO:ar (2*(i:Int))=((2*i:Nat):Int):=Zc;have kh:ar (((2*i:Nat):Int)+2)=((2*i+2:Nat):Int):=by rw[Zc];omega
     simp only[cM,jO,kh,br];rw[aX,Zb (by rw[aY,bn,bn];omega),Zb (by rw[aY,bn,bn];omega),Zk (yc n _ s (Az (a:=2*i))),Ay,av,aq];have⟨q2,s2,dj,tt⟩:=fF.push (β:=ah) (sz:=1) (n:=i) (lim:=8796093022208) [.i (bR b (2*i) 2)] AC j6 rfl AC;rw[tt];refine aL (t-(i+1)) _ _ AC ⟨i+1,1,q2,rfl,.inl rfl,AC,aM _,?_⟩;rw[MU,show ints (dZ b i++[bR b (2*i) 2])=ints (dZ b i)++[.i (bR b (2*i) 2)] by unfold ints;rw[fB];rfl];exact dj
    .rw[aZ]
     have Ba:i=t:=AC
     subst Ba;subst kW;simp only[aV,aq];have hdc:=Zm5 n (dZ b i) 1 pk s (.inl rfl) fF.sl;rw[gm]at hdc;refine Ok.cv hdc λs2 aU=>?_
     have sc:=fF.mono aU;cases Dd:yw (dZ b i)with
     |none=>
      rw[Dd]at cC;show Ok Q (fa [.str [],.bool false] _ s2);rw[bT,au,aq,Za,bp,ae];simp only[au,aq];rw[ae];exact bad s2 sc.1 cC
     |some c=>
      rw[Dd]at cC;simp only at cC;show Ok Q (fa [.str c,.bool true] _ s2);rw[bT,au,aq,Za,bw,af];have rl: ∀(K:ah->M ah),dx p 64 K s2=K (bI l) s2:=λK=>by
       have:=iC (show Sl _ _ (bI l)from hs.mono sc.1) K;rwa [Zs,hl]at this
      rw[rl,<-lH,rf];simp only[au,aq];cases cO:(c==l)with
      |false=>
       rw[cO]at cC;rw[bp,ae];exact bad s2 sc.1 cC
      |true=>
       rw[cO]at cC;rw[bw,af,Zp,<-hQ];refine .mk ⟨_,Zq sc.1,?_⟩;rw[cC];exact⟨pk,by rw[gm],sc.sl.dU _,AC⟩
   .rw[aX]
    refine bad s1 aD ?_;unfold lG;rw[ho];grind
  .rw[bM hk,bp,ae]
   simp_all[lG]
theorem Zwx (k:Int):sU k=jZ k:=by
 grind[sU,jZ]
theorem Zp2 (n:Nat) (x:ZH) (st:St) (hl:x.dH.length=12) (hm:x.mask<4294967296) (hs:x.name.length<1000) (hn:x.name.length+30<=n):
  Ok (λo=>∃s',o=(.val [.bool (na x)],s')/\aA st s') (run Bd n 293 [.agg (Z1 x)] st):=by
 obtain⟨n,rfl⟩: ∃m,n=m+2:=⟨n-2,AC⟩;rw[Ze,h.agP];unfold Tc bu az Q_ je Ls Lb gA Li
 try dsimp only
 rw[dY];unfold Z1;have j6:(ints x.dH).length=12:=by simp[ints,hl]
 rw[bT,av,bK j6,aq,bK Fd];refine Ok.cv (Zk6 (n+1) x.name AC AC st) λs1 aD=>?_
 rw[au,aq];have bad:na x=false->Ok (λo=>∃s',o=(.val [.bool (na x)],s')/\aA st s') ((ax [.bool false]:M ah) s1):=λhr=>by
  rw[Zd];exact .mk ⟨s1,by rw[hr],aD⟩
 rw[Za];cases xm:rF x.name with
 |false=>
  rw[bp,ae];simp only[au,aq];rw[Za,ae];simp only[au,aq];rw[ae];exact bad (by grind[na])
 |true=>
 rw[bw,af,bM (AC:¬(x.mask:Int)<0)];simp only[au,aq];rw[Za,af];by_cases h4:(x.mask:Int)>4095
 .rw[aS h4]
  simp only[au,aq];rw[ae];grind[na]
 rw[bM h4];simp only[au,aq];rw[af];have hq:na x=(List.range 12).all λi=>rW x.mask i (x.dH.getD i 0):=by
  grind[na]
 refine Ok.join λaW kW=>?_
 refine Zj _ (λq y t=>∃i:Nat,y=[.i ((x.mask/2^i:Nat):Int),.i (i:Int)]/\i<=12/\12-i<=q/\t=s1/\∀j,j<i->rW x.mask j (x.dH.getD j 0)=true) ?_ 12 (n+1) _ _ Fd AC;rintro q y t ⟨i,rfl,hi,hqi,rfl,dt⟩ rec aL;simp only[av,aq];by_cases aw:i<12
 .have di:(ints x.dH)[i]? =some (.i (x.dH.getD i 0)):=by
   rw[ZC,ef,cu AC];rfl
  have⟨w,hw⟩: ∃w,x.dH.getD i 0=w:=⟨_,rfl⟩;have⟨m,lM⟩: ∃m,x.mask/2^i=m:=⟨_,rfl⟩;have fE:x.mask/2^(i+1)=m/2:=by rw[u7,<-FQ,lM]
  have alp:m<=x.mask:=by rw[<-lM];exact FR _ _
  have hhf:rW x.mask i w=bif decide (m%2=1)then jZ w else w==0:=by
   unfold rW eI;rw[lM,Zwx]
  rw[hw]at di;rw[lM,aX];have e0:((m:Int).tmod 2==0)=decide (m%2=0):=by
   rw[show(m:Int).tmod 2=((m%2:Nat):Int)from rfl];exact nE _ 0 0 rfl
  have e1:((m:Int).tmod 2==1)=decide (m%2=1):=by
   rw[show(m:Int).tmod 2=((m%2:Nat):Int)from rfl];exact nE _ 1 1 rfl
  rw[e0,e1];have AP:rW x.mask i w=true->Ok (λo=>∃s',o=(.val [.bool (na x)],s')/\aA st s') (rec [.i (ar ((m:Int).tdiv 2)),.i (ar ((i:Int)+1))] t):=λhf=>by
   rw[show(m:Int).tdiv 2=((m/2:Nat):Int)from rfl,Zc,Zc];refine aL (12-(i+1)) _ _ AC ⟨i+1,by rw[fE];rfl,AC,aM _,rfl,λj hj=>?_⟩;by_cases mJ:j=i
   .rw[mJ,hw];exact hf
   grind
  rw[Za];by_cases Pp:m%2=1
  .rw[aX Pp]at hhf
   rw[aZ];simp only[au,aq];rw[Za,af,Za,aX Pp,Zb (show aP (i:Int) 12=true from Zi aw),br,cS,iu di,bj,Zk (Iv n w t)];simp only[au,aq];grind
  .rw[aZ Pp]at hhf
   rw[aX,Zb (show aP (i:Int) 12=true from Zi aw),br,cS,iu di];simp only[bj,au,aq];rw[Za];cases hz:(w==0)with
   |true=>
    rw[bw,af,Za,aZ Pp];simp only[au,aq];rw[af];grind
   |false=>
    rw[bp,ae];simp only[au,aq];rw[ae];grind
 .rw[aZ,kW]
  simp only[aq,Zd];refine .mk ⟨t,?_,aD⟩;grind
theorem ZtX (n:Nat) (p:ai) (l:aj) (st:St) (hs:c9 st p l) (hl:l.length=64) (hn:3000<=n):
  Ok (λo=>∃s',aA st s'/\match ZL l with
   |none=>o=(.val [.agg (Z1 Em),.bool false],s')
   |some x=>o=(.val [.agg (Z1 x),.bool true],s')/\x.dH.length=12) (run Bd n 270 [.slice 1 p 64] st):=by
 obtain _|n:=n;omega;rw[Ze,h.agB];unfold Uy bZ vy az tY bu jI cW cA ba F0 Ls Lb Li F4
 try dsimp only
 rw[aV,aq];refine Ok.cv (F7 n p l st hs hl) λs1 aD=>?_
 have eY:=hs.mono aD;have⟨Q,hQ⟩: ∃Q:Out ah×St->Prop,(λo=>∃s',aA st s'/\match ZL l with
   |none=>o=(.val [.agg (Z1 Em),.bool false],s')
   |some x=>o=(.val [.agg (Z1 x),.bool true],s')/\x.dH.length=12)=Q:=⟨_,rfl⟩
 have hq0:(Z1 Em:ah)=[.str (bs []),.i 0,.i 0,.i 0,.i 0,.i 0,.i 0,.i 0,.i 0,.i 0,.i 0,.i 0,.i 0,.i 0]:=rfl;rw[<-hq0];have bad: ∀s',aA st s'->ZL l=none->Ok Q ((ax [.agg (Z1 Em),.bool false]:M ah) s'):=λs' hp hg=>by
  rw[Zd,<-hQ];refine .mk ⟨s',hp,?_⟩;rw[hg]
 rw[hQ];unfold zF;cases ho:fU l with
 |none=>
  simp only[av,bT,au,aq];rw[Za,bp,ae];simp only[au,aq];rw[Za,ae];simp only[au,aq];rw[ae];exact bad s1 aD (by grind[ZL])
 |some q=>
  have⟨k,t,b⟩:=q;have⟨_,hb,_,ht⟩:=sP ho;simp only[av,bT,au,aq];rw[Za,bw,af,nE k 5 5 rfl];simp only[au,aq];rw[Za];by_cases hk:k=5
  .subst hk
   rw[aS rfl,bw,af];simp only[au,aq];by_cases Fg:t<=28
   .rw[aZ]
    have cC:=Zuv ho Fg;have r0:run Bd n 292 [.str (b.take 4)] s1=some (.val [.i ((rd b 0 4:Nat):Int)],s1):=by
     rw[yc n _ s1 (by rw[cR];omega)];have e:eG (b.take 4)=rd b 0 4:=by unfold rd;rw[dE]
     have aw:=Qk b 0 4;rw[e,Zc]
    rw[Zb (aS AC),rj r0 (.refl _),av,aq];have ajK:ar (28+(t:Int))=((28+t:Nat):Int):=by rw[Zc];omega
    rw[ajK,Zb (by rw[aY,bn,bn];omega),Zb (aS AC),br];have xm:(b.take (28+t)).drop 28=(b.drop 28).take t:=by rw[BD,show 28+t-28=t by omega]
    rw[xm];refine Ok.join λaW kW=>?_
    refine Zj _ (λq y s=>∃i:Nat,y=[.agg (DV.str ((b.drop 28).take t)::DV.int .i64 ((rd b 0 4:Nat):Int)::(ints (ZY b i)++ints (List.replicate (12-i) 0))),.i i]/\i<=12/\12-i<=q/\s=s1) ?_ 12 n _ _ ⟨0,rfl,AC,AC,rfl⟩ AC;rintro q _ s ⟨i,rfl,hi,hq,rfl⟩ rec aL;have hlen:(ints (ZY b i)++ints (List.replicate (12-i) 0)).length=12:=by
     simp[ints,DY];omega
    rw[dY,bT,av,bK hlen,av,aq];by_cases aw:i<12
    .have cM:ar ((i:Int)+1)=((i+1:Nat):Int):=Zc
     have jO:ar (2*(i:Int))=((2*i:Nat):Int):=Zc;have kh:ar (6+((2*i:Nat):Int))=((4+2*i+2:Nat):Int):=by rw[Zc];omega
     have p7:ar (4+((2*i:Nat):Int))=((4+2*i:Nat):Int):=by rw[Zc];omega
     simp only[cM,jO,kh,p7,br,cS];rw[aX,Zb (by rw[aY,bn,bn];omega),Zb (by rw[aY,bn,bn];omega),Zk (yc n _ s (Az (a:=4+2*i))),Ay,av,aq,Zb (show aP (i:Int) 12=true from Zi aw),Zb (gz AC)];refine aL (12-(i+1)) _ _ AC ⟨i+1,?_,AC,aM _,rfl⟩;congr 4;rw[Zne,show List.replicate (12-i) (0:Int)=0::List.replicate (12-(i+1)) 0 by rw[show 12-i=(12-(i+1))+1 by omega];rfl];have e3:i=(ints (ZY b i)).length:=by simp[ints,DY]
     have e4:=sV (ints (ZY b i)) [.i 0] (ints (List.replicate (12-(i+1)) 0)) [.i (bR b (4+2*i) 2)] rfl;rw[<-e3]at e4;show cG (ints (ZY b i)++([.i 0]++ints (List.replicate (12-(i+1)) 0))) i [.i (bR b (4+2*i) 2)]=ints (ZY b i++[bR b (4+2*i) 2])++_;rw[e4,show ints (ZY b i++[bR b (4+2*i) 2])=ints (ZY b i)++[.i (bR b (4+2*i) 2)] by unfold ints;rw[fB];rfl,fR]
    .rw[aZ]
     have qH:i=12:=AC
     subst qH;rw[show ints (ZY b 12)++ints (List.replicate (12-12) 0)=ints (ZY b 12)from gM _]at hlen⊢;have mG:(DV.str ((b.drop 28).take t)::DV.int .i64 ((rd b 0 4:Nat):Int)::ints (ZY b 12))=Z1 (jY b t):=rfl;have uK:(jY b t).dH.length=12:=DY b 12;have KG:(jY b t).mask<4294967296:=Qk b 0 4;have Pk:(jY b t).name.length<=28:=by
      show((b.drop 28).take t).length<=28;rw[cR];omega
     subst kW;show Ok Q (bh [DV.agg _] _ s);rw[dY,bT,av,bK hlen,aq,mG];refine Ok.cv (Zp2 n (jY b t) s uK KG AC AC) λs2 aU=>?_
     rw[au,aq,Za];cases hr:na (jY b t)with
     |false=>
      rw[hr,gu,af]at cC;rw[bp,ae];simp only[au,aq];rw[ae];exact bad s2 (aD.trans aU) cC
     |true=>
      rw[hr,dL]at cC;rw[bw,af];refine Ok.cx (Zmy n (jY b t) uK AC s2 AC) λs3 cz=>?_
      rw[bT,aq];have rl: ∀(K:ah->M ah),dx p 64 K s3=K (bI l) s3:=λK=>by
       have:=iC (show Sl _ _ (bI l)from eY.mono (aU.trans cz)) K;rwa [Zs,hl]at this
      rw[rl,<-lH,rf];simp only[au,aq];cases cO:(zI (jY b t)==l)with
      |false=>
       rw[cO]at cC;rw[bp,ae];exact bad s3 (aD.trans (aU.trans cz)) cC
      |true=>
       rw[cO,ae]at cC;rw[bw,af,bK (by rw[<-mG];simp[hlen]),Zd,<-hQ];refine .mk ⟨s3,aD.trans (aU.trans cz),?_⟩;rw[cC];exact⟨rfl,uK⟩
   .rw[aX]
    refine bad s1 aD ?_;unfold ZL;rw[ho];grind
  .rw[bM hk,bp,ae]
   simp_all[ZL]
def tl:ak:=List.replicate 16 0
def gS (img:aj) (k:Int):Option (ak):=if k=0 then some tl else match jC img k with
 |none=>none
 |some l=>iU l
def kI (img:aj) (k:Int):Option (List bB):=if k=0 then some nS else match jC img k with
 |none=>none
 |some l=>ZO l
theorem Jo (img:aj) (k:Int):((gS img k).getD tl).length=16:=by
 unfold gS;by_cases h:k=0
 .rw[bG h];rfl
 .rw[bq h]
  cases hl:jC img k with
  |none=>rfl
  |some l=>
   simp only;cases hg:iU l with
   |none=>rfl
   |some f=>exact UP hg
theorem Ni (img:aj) (k:Int):((kI img k).getD nS).length=7:=by
 unfold kI;by_cases h:k=0
 .rw[bG h];rfl
 .rw[bq h]
  cases hl:jC img k with
  |none=>rfl
  |some l=>
   simp only;cases hg:ZO l with
   |none=>rfl
   |some f=>exact IM hg
theorem Zx (l:ak):(ints l).length=l.length:=by simp[ints]
theorem Zxu:(ints tl:ah)=List.replicate 16 (.i 0):=rfl
theorem MH (n:Nat) (img:aj) (k:Int) (st:St) (hl:img.length<1000000) (hn:600<=n:=by omega):
  Ok (λo=>∃s',o=(.val [.agg (ints ((gS img k).getD tl)),.bool (gS img k).isSome],s')/\aA st s') (run Bd n 289 [.str img,.i k] st):=by
 obtain⟨n,rfl⟩: ∃m,n=m+2:=⟨n-2,AC⟩;rw[Ze,h.agL];unfold Uu oi qh js eQ ba
 try dsimp only
 rw[bT,av,aq,<-Zxu];by_cases h0:k=0
 .have e:gS img k=some tl:=by grind[gS]
  rw[h0,zZ,ae,Zd,<-h0,e];exact .mk ⟨st,rfl,.refl _⟩
 .have e:gS img k=(match jC img k with|none=>none|some l=>iU l):=by grind[gS]
  rw[eN.2 h0,af];refine Ok.call (F6 n img k st hl) ?_;rintro o ⟨s1,aD,ho⟩;rw[e];cases nO:jC img k with
  |none=>
   rw[nO]at ho;simp only at ho;subst ho;refine⟨_,s1,rfl,?_⟩;rw[Zf 1 0 none _ (.inr rfl),au,aq,bp,ae,Zd];exact .mk ⟨s1,rfl,aD⟩
  |some l=>
   rw[nO]at ho;obtain⟨p,rfl,hf,rU⟩:=ho;refine⟨_,s1,rfl,?_⟩;simp only[aV,au,aq];rw[bw,af];refine Ok.call (ZoR (n+1) p l s1 hf.1 rU AC) ?_;rintro o ⟨s2,aU,ho⟩;cases hg:iU l with
   |none=>
    rw[hg]at ho;simp only at ho;subst ho;refine⟨_,s2,rfl,?_⟩;show Ok _ (bh [.agg (ints tl),.bool false] _ s2);rw[dY,au,aq,bK (by rw[Zx];rfl),bK (by rw[Zx];rfl),Zd];exact .mk ⟨s2,rfl,aD.trans aU⟩
   |some f=>
    rw[hg]at ho;obtain⟨rfl,eE⟩:=ho;refine⟨_,s2,rfl,?_⟩;rw[dY,au,aq,bK (by rw[Zx];exact eE),bK (by rw[Zx];exact eE),Zd];exact .mk ⟨s2,rfl,aD.trans aU⟩
theorem ZlW (n:Nat) (img:aj) (k:Int) (st:St) (hl:img.length<1000000) (hn:600<=n:=by omega):
  Ok (λo=>∃s',o=(.val [.agg (ca ((kI img k).getD nS)),.bool (kI img k).isSome],s')/\aA st s') (run Bd n 290 [.str img,.i k] st):=by
 obtain⟨n,rfl⟩: ∃m,n=m+2:=⟨n-2,AC⟩;rw[Ze,h.agM];unfold Tm oi qh js ZK eQ ba
 try dsimp only
 rw[bT,av,aq,<-ZrS];have PY: ∀ {f:List bB},f.length=7->(ca f).length=21:=λhf=>by rw[ZB,hf]
 by_cases h0:k=0
 .have e:kI img k=some nS:=by grind[kI]
  rw[h0,zZ,ae,Zd,<-h0,e];exact .mk ⟨st,rfl,.refl _⟩
 .have e:kI img k=(match jC img k with|none=>none|some l=>ZO l):=by grind[kI]
  rw[eN.2 h0,af];refine Ok.call (F6 n img k st hl) ?_;rintro o ⟨s1,aD,ho⟩;rw[e];cases nO:jC img k with
  |none=>
   rw[nO]at ho;simp only at ho;subst ho;refine⟨_,s1,rfl,?_⟩;rw[Zf 1 0 none _ (.inr rfl),au,aq,bp,ae,Zd];exact .mk ⟨s1,rfl,aD⟩
  |some l=>
   rw[nO]at ho;obtain⟨p,rfl,hf,rU⟩:=ho;refine⟨_,s1,rfl,?_⟩;simp only[aV,au,aq];rw[bw,af];refine Ok.call (Zov (n+1) p l s1 hf.1 rU AC) ?_;rintro o ⟨s2,aU,ho⟩;cases hg:ZO l with
   |none=>
    rw[hg]at ho;simp only at ho;subst ho;refine⟨_,s2,rfl,?_⟩;rw[dY,au,aq,bK (PY rfl),bK (PY rfl),Zd];exact .mk ⟨s2,rfl,aD.trans aU⟩
   |some f=>
    rw[hg]at ho;obtain⟨rfl,eE⟩:=ho;refine⟨_,s2,rfl,?_⟩;rw[dY,au,aq,bK (PY eE),bK (PY eE),Zd];exact .mk ⟨s2,rfl,aD.trans aU⟩
def mE (img:aj) (top:Int) (slot:Nat):Option bB:=match gS img top with
 |none=>none
 |some f=>match gS img (f.getD (slot/112) 0)with
  |none=>none
  |some g=>match kI img (g.getD (slot/7%16) 0)with
   |none=>none
   |some l=>l[slot%7]?
theorem Va {x:bB} (h:l[j]? =some x):((ca l).drop (j*3)).take 3=eV x:=by
 obtain⟨A,B,rfl,hA⟩: ∃A B,l=A++x::B/\A.length=j:=by
  have⟨hj,hx⟩:=eB.1 h;exact⟨l.take j,l.drop (j+1),by rw[<-hx];simp,by rw[cR];omega⟩
 have e:ca (A++x::B)=ca A++(eV x++ca B):=by rw[Jc];rfl
 rw[e,List.drop_append_of_le_length (by rw[ZB,hA];omega),ly (by rw[ZB,hA];omega),iG];rfl
theorem Al {l:ak} (h:j<l.length:=by omega):(ints l)[j]? =some (.i (l.getD j 0)):=by
 rw[ZC h,ef,cu h];rfl
theorem Zr6 (n:Nat) (img:aj) (top:Int) (slot:Nat) (st:St) (hl:img.length<1000000) (hs:slot<1792) (hn:700<=n):
  Ok (λo=>∃s',o=(.val [.agg (eV ((mE img top slot).getD gZ)),.bool (mE img top slot).isSome],s')/\aA st s') (run Bd n 267 [.str img,.i top,.i (slot:Int)] st):=by
 obtain _|n:=n;omega;rw[Ze,h.agy];unfold Th je js az eQ sI Lb;simp only[bT,av,aq];have ae2:ar ((slot:Int).tdiv 112)=((slot/112:Nat):Int):=by
  rw[show(slot:Int).tdiv 112=((slot/112:Nat):Int)from rfl];exact Zc
 have e7:ar ((slot:Int).tdiv 7)=((slot/7:Nat):Int):=by
  rw[show(slot:Int).tdiv 7=((slot/7:Nat):Int)from rfl];exact Zc
 have Xs:((slot/7:Nat):Int).tmod 16=((slot/7%16:Nat):Int):=rfl;have em7:(slot:Int).tmod 7=((slot%7:Nat):Int):=rfl;refine Ok.cv (MH n img top st hl) λs1 aD=>?_
 have eE:=Jo img top;have⟨f,hf⟩: ∃f,(gS img top).getD tl=f:=⟨_,rfl⟩;rw[hf]at eE⊢;rw[dY,au,aq,bK (by rw[Zx];exact eE),bK (by rw[Zx];exact eE),ae2,e7,Xs,em7];simp only[br,cS];rw[Zb (show aP ((slot/112:Nat):Int) 16=true from Zi),iu (Al),bj];refine Ok.cv (MH n img (f.getD (slot/112) 0) s1 hl) λs2 aU=>?_
 have jx:=Jo img (f.getD (slot/112) 0);have⟨g,hg⟩: ∃g,(gS img (f.getD (slot/112) 0)).getD tl=g:=⟨_,rfl⟩;rw[hg]at jx⊢;rw[dY,au,aq,bK (by rw[Zx];exact jx),bK (by rw[Zx];exact jx),Za];have bad:mE img top slot=none->Ok (λo=>∃s',o=(.val [.agg (eV ((mE img top slot).getD gZ)),.bool (mE img top slot).isSome],s')/\aA st s') ((ax [.agg [.bool false,.i 0,.i 0],.bool false]:M ah) s2):=λhn=>by
  rw[hn,Zd];exact .mk ⟨s2,rfl,aD.trans aU⟩
 cases hF:gS img top with
 |none=>
  rw[oA FS];simp only[au,aq];rw[ae];refine bad ?_;unfold mE;rw[hF]
 |some f'=>
  have X6:f'=f:=by rw[<-hf,hF];rfl
  subst X6;rw[oz FS];simp only[au,aq];cases hG:gS img (f'.getD (slot/112) 0)with
  |none=>
   rw[oA FS];refine bad ?_;unfold mE;rw[hF];simp only;rw[hG]
  |some g'=>
   have xj:g'=g:=by rw[<-hg,hG];rfl
   subst xj;rw[oz FS,Zb (show aP ((slot/7%16:Nat):Int) 16=true from Zi),iu (Al),bj];refine Ok.cv (ZlW n img (g'.getD (slot/7%16) 0) s2 hl) λs3 cz=>?_
   have gD:=Ni img (g'.getD (slot/7%16) 0);have⟨l,Hr⟩: ∃l,(kI img (g'.getD (slot/7%16) 0)).getD nS=l:=⟨_,rfl⟩;rw[Hr]at gD⊢;have hx:l[slot%7]? =some (l[slot%7]' AC):=Fd
   have XX:=Va hx;rw[dY,au,aq,bK (by rw[ZB,gD]),bK (by rw[ZB,gD]),Zb (show aP ((slot%7:Nat):Int) 7=true from Zi),Zb (gz AC),XX,bK (show(eV _).length=3 from rfl),Zd];refine .mk ⟨s3,?_,aD.trans (aU.trans cz)⟩;have Hj:mE img top slot=(match kI img (g'.getD (slot/7%16) 0)with|none=>none|some l=>l[slot%7]?):=by
    unfold mE;rw[hF];grind
   rw[Hj];cases hL:kI img (g'.getD (slot/7%16) 0)with
   |none=>
    have vW:l=nS:=by rw[<-Hr,hL];rfl
    have h0:l[slot%7]' AC=gZ:=by
     subst vW;exact List.eq_of_mem_replicate (ku _)
    rw[h0];rfl
   |some l'=>
    grind
def cJ (acc:ak) (k:Int):ak:=bif k==0 then acc else acc++[k]
def nc (img:aj):ak->ak->Option (ak)
 |acc,[]=>some acc
 |acc,k::r=>match kI img k with
  |none=>none
  |some _=>nc img (cJ acc k) r
def pG (img:aj):ak->ak->Option (ak)
 |acc,[]=>some acc
 |acc,k::r=>match gS img k with
  |none=>none
  |some g=>match nc img (cJ acc k) g with
   |none=>none
   |some rL=>pG img rL r
def yz (img:aj) (top:Int):Option (ak):=match gS img top with
 |none=>none
 |some f=>pG img (cJ [] top) f
def Mp (st:St) (R:Option (ak)) (o:Out ah×St):Prop:=∃s',aA st s'/\match R with
 |none=>o=(.val [.slice 0 none 0,.bool false],s')
 |some l=>∃p,o=(.val [.slice 1 p l.length,.bool true],s')/\Sl s' p (ints l)
theorem Zt6 (acc:ak) (k:Int):(cJ acc k).length<=acc.length+1:=by
 grind[cJ]
theorem Nn (l:ak) (k:Int):ints (l++[k])=ints l++[.i k]:=by simp[ints]
theorem JC {l:ak} (h:i<l.length:=by omega):l.drop i=l.getD i 0::l.drop (i+1):=by
 rw[jd h,ef,cu h];rfl
theorem Zp4 (n:Nat) (img:aj) (top:Int) (st:St) (hl:img.length<1000000) (hn:700<=n):
  Ok (Mp st (yz img top)) (run Bd n 265 [.str img,.i top] st):=by
 obtain _|n:=n;omega;rw[Ze,h.agw];unfold SA oi js fJ kB eQ vi ep ba Li
 try dsimp only
 rw[bT,av,aq,ZJ];refine Ok.cv (MH n img top st hl) λs1 aD=>?_
 have eE:=Jo img top;have⟨f,hf⟩: ∃f,(gS img top).getD tl=f:=⟨_,rfl⟩;rw[hf]at eE⊢;rw[dY,au,aq,bK (by rw[Zx];exact eE),bK (by rw[Zx];exact eE)];have⟨R,hR⟩: ∃R,yz img top=R:=⟨_,rfl⟩;rw[hR];have bad: ∀s',aA st s'->R=none->Ok (Mp st R) ((cc st.length [.slice 0 none 0,.bool false]:M ah) s'):=λs' hp hn=>by
  rw[hn,Zp];exact .mk ⟨_,Zq hp,rfl⟩
 cases hF:gS img top with
 |none=>
  rw[oA FS];grind[yz]
 |some f'=>
  have X6:f'=f:=by rw[<-hf,hF];rfl
  subst X6;have hRf:R=pG img (cJ [] top) f':=by
   rw[<-hR];grind[yz]
  rw[oz FS];refine Ok.join λay mK=>?_
  have go: ∀(z:Nat) (p:ai) (s2:St),(z=1\/p=none)->bg st s2 p (ints (cJ [] top))->Ok (Mp st R) (ay [.slice z p (cJ [] top).length] s2):=λz p s2 hz ho=>by
   subst mK;simp only[Zf 1 z p _ hz,aq];refine Ok.join λaH j7=>?_
   refine Zj _ (λq y t=>∃(i z:Nat) (p:ai) (out:ak),y=[.slice z p out.length,.i i]/\(z=1\/p=none)/\i<=16/\16-i<=q/\bg st t p (ints out)/\out.length<=1+17*i/\R=pG img out (f'.drop i)) ?_ 16 n _ _ ⟨0,1,p,cJ [] top,rfl,.inl rfl,AC,AC,ho,by have:=Zt6 [] top;simp at this;omega,by rw[dE];exact hRf⟩ AC;rintro q y t ⟨i,z,p,out,rfl,hz,hi,hq,ho,iz,xa⟩ rec aL;rw[Zf 1 z p _ hz,av,aq];have j6: ∀l:ak,(ints l).length=l.length*1:=λl=>by rw[Zx,cS]
   by_cases aw:i<16
   .have gj:=JC (l:=f') (i:=i)
    have⟨k,hk⟩: ∃k,f'.getD i 0=k:=⟨_,rfl⟩;rw[hk]at gj;have vR:(ints f')[i]? =some (.i k):=by rw[<-hk];exact Al
    rw[aX];refine Ok.join λaW kW=>?_
    rw[Zb (show aP (i:Int) 16=true from Zi aw),br,cS,iu vR,bj];refine Ok.cv (MH n img k t hl) λt1 aU=>?_
    have jx:=Jo img k;have⟨g,hg⟩: ∃g,(gS img k).getD tl=g:=⟨_,rfl⟩;rw[hg]at jx⊢;rw[dY,au,aq,bK (by rw[Zx];exact jx),bK (by rw[Zx];exact jx)];have sb:=ho.mono aU;rw[gj]at xa;cases hG:gS img k with
    |none=>
     rw[oA FS];refine bad t1 sb.1 ?_;rw[xa];unfold pG;rw[hG]
    |some g'=>
     have xj:g'=g:=by rw[<-hg,hG];rfl
     subst xj;have XN:R=(match nc img (cJ out k) g' with|none=>none|some rL=>pG img rL (f'.drop (i+1))):=by
      rw[xa]
      conv=>lhs;unfold pG
      rw[hG]
     rw[oz FS,Zb (show aP (i:Int) 16=true from Zi aw),iu vR,bj];refine Ok.join λbA C8=>?_
     have Xx: ∀(z:Nat) (p:ai) (s2:St),(z=1\/p=none)->bg st s2 p (ints (cJ out k))->Ok (Mp st R) (bA [.slice z p (cJ out k).length] s2):=λz p s2 hz ho=>by
      subst C8;simp only[Zf 1 z p _ hz,aq];refine Ok.join λcq C9=>?_
      have lN:=Zt6 out k;refine Zj _ (λq y t=>∃(j z:Nat) (p:ai) (o:ak),y=[.slice z p o.length,.i j]/\(z=1\/p=none)/\j<=16/\16-j<=q/\bg st t p (ints o)/\o.length<=2+17*i+j/\nc img (cJ out k) g'=nc img o (g'.drop j)) ?_ 16 n _ _ ⟨0,1,p,cJ out k,rfl,.inl rfl,AC,AC,ho,AC,rfl⟩ AC;rintro q2 y2 u ⟨j,z2,p2,o2,rfl,gp,hj,Fa,dj,Hw,Ka⟩ dC kf;rw[Zf 1 z2 p2 _ gp,av,aq];by_cases kX:j<16
      .have acg:=JC (l:=g') (i:=j)
       have⟨w,hw⟩: ∃w,g'.getD j 0=w:=⟨_,rfl⟩;rw[hw]at acg;have rY:(ints g')[j]? =some (.i w):=by rw[<-hw];exact Al
       rw[aX,Zb (show aP (j:Int) 16=true from Zi kX),br,cS,iu rY,bj];refine Ok.cv (ZlW n img w u hl) λu1 cz=>?_
       have gD:=Ni img w;rw[dY,au,aq,bK (by rw[ZB,gD]),bK (by rw[ZB,gD])];have kY:=dj.mono cz;rw[acg]at Ka;cases hL:kI img w with
       |none=>
        rw[oA FS];refine bad u1 kY.1 ?_;rw[XN,Ka];unfold nc;rw[hL]
       |some l=>
        have OT:nc img (cJ out k) g'=nc img (cJ o2 w) (g'.drop (j+1)):=by
         rw[Ka]
         conv=>lhs;unfold nc
         rw[hL]
        rw[oz FS,Zb (show aP (j:Int) 16=true from Zi kX),iu rY,bj,Za];by_cases zl:w=0
        .have kd:cJ o2 w=o2:=by unfold cJ;rw[zl];rfl
         rw[kd]at OT;rw[zl,oz FS];simp only[aV,aq];rw[Zc];exact kf (16-(j+1)) _ _ AC ⟨j+1,1,p2,o2,rfl,.inl rfl,AC,aM _,kY,AC,OT⟩
        .have kd:cJ o2 w=o2++[w]:=by unfold cJ;rw[eN.2 zl];rfl
         rw[kd]at OT;rw[eN.2 zl,bp,ae,Zb (show aP (j:Int) 16=true from Zi kX),iu rY,bj];have⟨p4,u4,oI,CX⟩:=kY.push (β:=ah) (sz:=1) (n:=o2.length) (lim:=8796093022208) [.i w] AC (j6 o2) rfl AC;rw[CX];simp only[aV,aq];rw[Zc];rw[<-Nn]at oI;exact kf (16-(j+1)) _ _ AC ⟨j+1,1,p4,o2++[w],by rw[bz,iS];rfl,.inl rfl,AC,aM _,oI,by rw[bz,iS];omega,OT⟩
      .rw[aZ,C9]
       simp only[aV,aq];rw[kW];simp only[aV,aq];rw[Zc];rw[ly AC]at Ka;rw[Ka]at XN;exact aL (16-(i+1)) _ _ AC ⟨i+1,1,p2,o2,rfl,.inl rfl,AC,aM _,dj,AC,XN⟩
     by_cases mg:k=0
     .have kd:cJ out k=out:=by unfold cJ;rw[mg];rfl
      rw[kd]at Xx;rw[mg,oz FS];grind
     .have kd:cJ out k=out++[k]:=by unfold cJ;rw[eN.2 mg];rfl
      rw[kd]at Xx;rw[eN.2 mg,bp,ae,Zb (show aP (i:Int) 16=true from Zi aw),iu vR,bj];have⟨p4,u4,oI,CX⟩:=sb.push (β:=ah) (sz:=1) (n:=out.length) (lim:=8796093022208) [.i k] AC (j6 out) rfl AC;rw[CX];rw[<-Nn]at oI;have:=Xx 1 p4 u4 (.inl rfl) oI;rwa [bz,iS]at this
   .rw[aZ,j7]
    simp only[aV,aq,Zp];rw[ly AC]at xa;refine .mk ⟨_,Zq ho.1,?_⟩;rw[xa];exact⟨p,rfl,ho.sl.dU _⟩
  by_cases HJ:top=0
  .have kd:cJ [] top=[]:=by unfold cJ;rw[HJ];rfl
   rw[kd]at go;rw[HJ,oz FS];exact go 0 none s1 (.inr rfl) (.nil aD)
  .have kd:cJ [] top=[top]:=by unfold cJ;rw[eN.2 HJ];rfl
   rw[kd]at go;rw[eN.2 HJ,bp,ae];have⟨p4,u4,oI,CX⟩:=(bg.nil aD).push (β:=ah) (sz:=1) (n:=0) (lim:=8796093022208) [.i top] AC rfl rfl AC;rw[CX];exact go 1 p4 u4 (.inl rfl) oI
def uU (img:aj) (k:Int):Option jV:=match jC img k with
 |none=>none
 |some l=>jf l
theorem Zsd (n:Nat) (img:aj) (k:Int) (st:St) (hl:img.length<1000000) (hn:3002<=n):
  Ok (λo=>∃s',aA st s'/\match uU img k with
   |none=>∃z,o=(.val [.agg [.i 0,.i 0,.i 0,.i 0,.slice z none 0],.bool false],s')
   |some x=>∃q,o=(.val [.agg (oP x 1 q),.bool true],s')/\Sl s' q (ints x.kids)) (run Bd n 294 [.str img,.i k] st):=by
 obtain⟨n,rfl⟩: ∃m,n=m+2:=⟨n-2,AC⟩;rw[Ze,h.agQ];unfold Tv oi qh Ge eQ BX ba F5
 try dsimp only
 rw[bT,av,aq,ZJ];refine Ok.call (F6 n img k st hl) ?_;rintro o ⟨s1,aD,ho⟩;unfold uU;cases nO:jC img k with
 |none=>
  rw[nO]at ho;simp only at ho;subst ho;refine⟨_,s1,rfl,?_⟩;rw[Zf 1 0 none _ (.inr rfl),au,aq,bp,ae,Zp];exact .mk ⟨_,Zq aD,0,rfl⟩
 |some l=>
  rw[nO]at ho;obtain⟨p,rfl,hf,rU⟩:=ho;refine⟨_,s1,rfl,?_⟩;simp only[aV,au,aq];rw[bw,af];refine Ok.call (Zt3 (n+1) p l s1 hf.1 rU AC) ?_;rintro o ⟨s2,aU,ho⟩;cases hg:jf l with
  |none=>
   rw[hg]at ho;simp only at ho;subst ho;refine⟨_,s2,rfl,?_⟩;rw[dY];simp only[av,Zf 1 0 none _ (.inr rfl),au,aq];rw[Zp];exact .mk ⟨_,Zq (aD.trans aU),1,rfl⟩
  |some x=>
   rw[hg]at ho;obtain⟨q,rfl,hq⟩:=ho;refine⟨_,s2,rfl,?_⟩;rw[dY];unfold oP fk;simp only[od,iG,av,aV,au,aq];rw[Zp];exact .mk ⟨_,Zq (aD.trans aU),q,rfl,hq.1.dU _⟩
def j1 (img:aj):Nat->ak->bm->Option (List bm×ak)
 |0,_,_=>some ([],[])
 |j+1,ks,e=>match j1 img j ks e with
  |none=>none
  |some (es,bs)=>match uU img (ks.getD j 0)with
   |none=>none
   |some m=>bif decide (m.kids.length=j)then(match j1 img j m.kids m.bL with
    |none=>none
    |some (iy,gV)=>bif fD e m.bL then some (es++m.bL::iy,bs++ks.getD j 0::gV)else none)else none
def lR (img:aj) (d:Nat) (k:Int):Option (List bm×ak):=match uU img k with
 |none=>none
 |some m=>bif decide (m.kids.length=d)then(match j1 img d m.kids m.bL with
  |none=>none
  |some (es,bs)=>some (m.bL::es,k::bs))else none
theorem Uf (img:aj) (j:Nat) (ks:ak) (e:bm):j1 img (j+1) ks e=(match j1 img j ks e with
  |none=>none
  |some (es,bs)=>match lR img j (ks.getD j 0)with
   |none=>none
   |some (fq,gq)=>bif fD e (fq.headD ⟨0,0,0,0⟩)then some (es++fq,bs++gq)else none):=by
 conv=>lhs;unfold j1
 cases j1 img j ks e with
 |none=>rfl
 |some q=>
  grind[lR]
theorem Zn4 {img:aj} {ks:ak} {e:bm} {i:Nat} (h:j1 img i ks e=none): ∀d,i<=d->j1 img d ks e=none
 |0,hd=>by
  grind
 |d+1,hd=>by
  by_cases hi:i=d+1
  .subst hi;exact h
  .rw[Uf,Zn4 h d AC]
theorem IU {img:aj} : ∀(j:Nat) (ks:ak) (e:bm) (es:List bm) (bs:ak),j1 img j ks e=some (es,bs)->es.length+1=2^j/\bs.length=es.length
 |0,_,_,_,_,h=>by cases h;exact⟨rfl,rfl⟩
 |j+1,ks,e,es,bs,h=>by
  unfold j1 at h;cases h1:j1 img j ks e with
  |none=>rw[h1]at h;cases h
  |some q=>
   have⟨yJ,yC⟩:=q;have⟨a1,a2⟩:=IU j ks e yJ yC h1;rw[h1]at h;simp only at h;cases h2:uU img (ks.getD j 0)with
   |none=>rw[h2]at h;cases h
   |some m=>
    rw[h2]at h;simp only at h;cases h3:decide (m.kids.length=j)with
    |false=>rw[h3]at h;cases h
    |true=>
     rw[h3,ae]at h;cases h4:j1 img j m.kids m.bL with
     |none=>rw[h4]at h;cases h
     |some q=>
      have⟨AN,wV⟩:=q;have⟨b1,b2⟩:=IU j m.kids m.bL AN wV h4;rw[h4]at h;grind
theorem D5 {k:Int} {bs:ak} (h:lR img d k=some (es,bs)):es.length=2^d/\bs.length=es.length:=by
 unfold lR at h;cases h2:uU img k with
 |none=>rw[h2]at h;cases h
 |some m=>
  rw[h2]at h;simp only at h;cases h3:decide (m.kids.length=d)with
  |false=>rw[h3]at h;cases h
  |true=>
   rw[h3,ae]at h;cases h4:j1 img d m.kids m.bL with
   |none=>rw[h4]at h;cases h
   |some q=>
    have⟨AN,wV⟩:=q;have⟨b1,b2⟩:=IU d m.kids m.bL AN wV h4;rw[h4]at h;grind
def Ip (st:St) (R:Option (List bm×ak)) (o:Out ah×St):Prop:=∃s',aA st s'/\match R with
 |none=>o=(.val [.slice 0 none 0,.slice 0 none 0,.bool false],s')
 |some (es,bs)=>∃p q,o=(.val [.slice 4 p es.length,.slice 1 q bs.length,.bool true],s')/\Sl s' p (bY es)/\Sl s' q (ints bs)/\(∀b∈aN q,st.length<=b)/\∀b∈aN p,st.length<=b
theorem NL (l m:ak):ints (l++m)=ints l++ints m:=by simp[ints]
theorem bg.uw {a:ai} (h:bg s0 s a cs) {sz m:Nat} (hz:0<sz) (hn:cs.length=n*sz) (hd:ds.length=m*sz) (hl:n+m<=lim):
  ∃p s',bg s0 s' p (cs++ds)/\Fx (aN a) s s'/\(∀b∈aN p,b∈aN a\/s.length<=b)/\∀K:ai->M β,cw sz a n ds m lim K s=K p s':=by
 rcases BI m with rfl|hm
 .rw[oZ]at hd
  rw[zW.1 hd,gM];exact⟨a,s,h,⟨aM _,λ_ _ _ e=>e⟩,λb hb=> .inl hb,λK=>rfl⟩
 .have hb:Nat.beq m 0=false:=by cases m with|zero=>cases hm|succ m=>rfl
  rcases h.2 with⟨rfl,rfl⟩|⟨i,rfl,hi,hs⟩
  .have h0:n=0:=by
    rcases Ic.1 (show n*sz=0 by simpa using hn.symm)with h|h
    .exact h
    .omega
   subst h0;refine⟨some (s.length,0),s++[some ⟨false,ds⟩],⟨h.1.trans (.new _ _),.inr ⟨s.length,rfl,h.1.len,Do⟩⟩,⟨Do,Fd⟩,λb hb=> .inr (by rw[cE.1 hb];exact aM _),λK=>?_⟩;unfold cw;rw[hb,gz hl,ae,af];rfl
  .have dX:s.gP i=some cs:=by grind[St.gP]
   refine⟨some (s.length,0),s.set i none++[some ⟨false,cs++ds⟩],⟨(rB h.1 hi none).trans (.new _ _),Fd⟩,⟨Do,λb x hbn e=>?_⟩,λb hb=> .inr (by rw[cE.1 hb];exact aM _),λK=>?_⟩
   .have hbi:i≠b:=λe=>hbn (by rw[<-e];exact cE.2 rfl)
    grind
   .unfold cw
    simp only[hb,gz hl,ae,af,dX];rw[eJ,gz AC];grind
theorem bg.yM {a:ai} (h:bg s0 s a cs) (k:Fx T s s') (hn: ∀b∈aN a,b∉T) (hp:aA s0 s'):bg s0 s' a cs:=by
 rcases h.2 with⟨rfl,rfl⟩|⟨i,rfl,hi,hs⟩
 .exact⟨hp,.inl ⟨rfl,rfl⟩⟩
 .exact⟨hp,.inr ⟨i,rfl,hi,k.2 i _ (hn i (cE.2 rfl)) hs⟩⟩
theorem bg.p9 {a:ai} (h:bg s0 s a cs): ∀b∈aN a,b<s.length:=λb hb=>by
 rcases h.2 with⟨rfl,rfl⟩|⟨i,rfl,hi,hs⟩
 .cases hb
 .rw[cE.1 hb]
  grind
theorem bg.J4 {a:ai} (h:bg s0 s a cs): ∀b∈aN a,s0.length<=b:=λb hb=>by
 rcases h.2 with⟨rfl,rfl⟩|⟨i,rfl,hi,hs⟩
 .cases hb
 .rw[cE.1 hb]
  exact hi
theorem AF {a:ai} (h: ∀b∈aN a,b∉T):lW T a:=λb o e=>h b (by rw[e];exact cE.2 rfl)
theorem Sl.p9 {a:ai} (h:Sl s a cs): ∀b∈aN a,b<s.length:=λb hb=>by
 cases a with
 |none=>cases hb
 |some x=>
  have⟨i,o⟩:=x;rw[cE.1 hb];exact h.lt
theorem Zsh (img:aj) (hl:img.length<1000000): ∀(d:Nat),d<=12->∀(n:Nat) (k:Int) (st:St),3100+d<=n->Ok (Ip st (lR img d k)) (run Bd n 271 [.str img,.i k,.i (d:Int)] st):=by
 intro d;induction d using Nat.strongRecOn with
 |_ d ih=>
 intro hd n k st hn;obtain _|n:=n;omega;rw[Ze,h.agC];unfold T5 je Ge az bZ oq Zn Gx sT bu eQ sX Li Af Lb B0;simp only[bT,av,aq,ZJ];refine Ok.call (Zsd n img k st hl AC) ?_;rintro o ⟨s1,aD,ho⟩;have⟨R,hR⟩: ∃R,lR img d k=R:=⟨_,rfl⟩;rw[hR];have bad: ∀s',aA st s'->R=none->Ok (Ip st R) ((cc st.length [.slice 0 none 0,.slice 0 none 0,.bool false]:M ah) s'):=λs' hp hn=>by
  rw[hn,Zp];exact .mk ⟨_,Zq hp,rfl⟩
 unfold lR at hR;cases hN:uU img k with
 |none=>
  rw[hN]at ho hR;obtain⟨z,rfl⟩:=ho;refine⟨_,s1,rfl,?_⟩;rw[dY];simp only[av,Zf 1 z none _ (.inr rfl),au,aq];rw[Za,bp,ae];simp only[au,aq];rw[ae];exact bad s1 aD hR.symm
 |some m=>
  rw[hN]at ho hR;obtain⟨q,rfl,hq⟩:=ho;simp only at hR;refine⟨_,s1,rfl,?_⟩;rw[dY];unfold oP fk;simp only[od,iG,av,aV,au,aq];rw[Za,bw,af,nE m.kids.length d (d:Int) rfl];simp only[au,aq];by_cases Pb:m.kids.length=d
  .rw[aX Pb]at hR
   rw[aS Pb,bw,af,Zz,Zz];have⟨s2,lO⟩: ∃s2,s1++[some (⟨false,[.i m.bL.slot,.i m.bL.gen,.i m.bL.key,.i m.bL.value]⟩:bO)]=s2:=⟨_,rfl⟩;have⟨s3,xq⟩: ∃s3,s2++[some (⟨false,[.i k]⟩:bO)]=s3:=⟨_,rfl⟩;have aU:aA s1 s2:=by rw[<-lO];exact .new _ _
   have cz:aA s2 s3:=by rw[<-xq];exact .new _ _
   have tB:bg st s3 (some (s1.length,0)) (bY [m.bL]):=⟨aD.trans (aU.trans cz),.inr ⟨s1.length,rfl,aD.len,cz.get (by rw[<-lO];simp[bY,fk])⟩⟩;have vX:bg st s3 (some (s2.length,0)) (ints [k]):=⟨aD.trans (aU.trans cz),.inr ⟨s2.length,rfl,by have:=aD.len;have:=aU.len;omega,by rw[<-xq];simp[ints]⟩⟩;rw[lO,xq];have dQ:s1.length<s2.length:=by rw[<-lO];simp
   refine Ok.join λaH j7=>?_
   refine Zj _ (λc y t=>∃(i:Nat) (pe pb:ai) (es:List bm) (bs:ak),y=[.slice 4 pe (es.length+1),.slice 1 pb (bs.length+1),.i (i:Int)]/\i<=d/\d-i<=c/\j1 img i m.kids m.bL=some (es,bs)/\bg st t pe (bY (m.bL::es))/\bg st t pb (ints (k::bs))/\(∀b∈aN pe,s1.length<=b/\b∉aN pb)/\(∀b∈aN pb,s1.length<=b)/\Sl t q (ints m.kids)/\s1.length<=t.length) ?_ d n _ _ ⟨0,some (s1.length,0),some (s2.length,0),[],[],rfl,cB _,AC,rfl,tB,vX,λb hb=>⟨by rw[cE.1 hb];exact aM _,by rw[cE.1 hb];intro e;have:=cE.1 e;omega⟩,λb hb=>by rw[cE.1 hb];omega,(hq.mono aU).mono cz,by have:=aU.len;have:=cz.len;omega⟩ AC;have Bg:=hq.p9;rintro c y t ⟨i,pe,pb,es,bs,rfl,hi,hc,hT,tB,vX,Pw,Pv,K0,dI⟩ rec aL;simp only[aV,av,aq];have hlen:=IU i m.kids m.bL es bs hT;have iX:2^i<=2^12:=oh EQ AC;by_cases aw:i<d
   .have⟨w,hw⟩: ∃w,m.kids.getD i 0=w:=⟨_,rfl⟩
    have rY:(ints m.kids)[i]? =some (.i w):=by rw[<-hw];exact Al
    obtain⟨i1,o1,rfl⟩:=K0.cF (by rw[Zx];omega);rw[aX,bc,Zb (Zi),br,K0.dO rY,bj];have sd:=Uf img i m.kids m.bL;rw[hT,hw]at sd;simp only at sd;refine Ok.call (ih i aw AC n w t AC) ?_;rintro o ⟨t1,jN,ho⟩;have KS:=tB.mono jN;have YE:=vX.mono jN;have fail:j1 img (i+1) m.kids m.bL=none->Ok (Ip st R) ((cc st.length [.slice 0 none 0,.slice 0 none 0,.bool false]:M ah) t1):=λhf=>by
     refine bad t1 KS.1 ?_;rw[<-hR,Zn4 hf d AC]
    cases hS:lR img i w with
    |none=>
     rw[hS]at ho sd;simp only at ho;subst ho;refine⟨_,t1,rfl,?_⟩;rw[Zf 4 0 none _ (.inr rfl),Zf 1 0 none _ (.inr rfl),au,aq,Za,bp,ae];simp only[au,aq];rw[ae];exact fail sd
    |some qq=>
     have⟨fq,gq⟩:=qq;rw[hS]at ho sd;obtain⟨px,py,rfl,KY,YR,YT,_⟩:=ho;refine⟨_,t1,rfl,?_⟩;have gm:=D5 hS;obtain⟨e0,Bl,rfl⟩: ∃e0 Bl,fq=e0::Bl:=by
      cases fq with
      |nil=>have:=gm.1;rw[xS]at this;omega
      |cons a b=>exact⟨a,b,rfl⟩
     simp only[aV,au,aq];rw[Za,bw,af];obtain⟨i4,o4,rfl⟩:=KY.cF (by rw[Zu,cQ];omega);rw[bc,Zb (show aP 0 (e0::Bl).length=true from Zi (i:=0) Do),KY.yN (k:=0) (n:=4) (by rw[Zu,cQ];omega)];show Ok _ (aC .i64 (fk e0) _ t1);unfold fk;simp only[av,aq];have Hd:=Sm (n-1) m.bL e0 t1;rw[show n-1+1=n by omega]at Hd;unfold fk at Hd;rw[Zk Hd];simp only[au,aq];simp only[List.headD_cons]at sd;cases hA:fD m.bL e0 with
     |false=>
      rw[hA,af]at sd;rw[bp,ae];exact fail sd
     |true=>
      rw[hA,ae]at sd;rw[bw,af];have r1: ∀K:ah->M ah,dx (some (i4,o4)) ((e0::Bl).length*4) K t1=K (bY (e0::Bl)) t1:=λK=>by
       have:=iC KY K;rwa [Zu]at this
      rw[r1];have⟨p5,t5,oJ,nk,EE,CY⟩:=KS.uw (β:=ah) (sz:=4) (n:=es.length+1) (m:=(e0::Bl).length) (lim:=2199023255552) (ds:=bY (e0::Bl)) AC (by rw[Zu];rfl) (by rw[Zu]) AC;rw[CY];have uQ:=jN.len;have YL:=tB.p9;have ai6:=vX.p9;have YS:Sl t5 py (ints gq):=YR.fx nk (AF λb hb dh=>by have:=YT b hb;have:=YL b dh;omega);have r2: ∀K:ah->M ah,dx py (gq.length*1) K t5=K (ints gq) t5:=λK=>by
       have:=iC YS K;rwa [Zx,<-cS gq.length]at this
      rw[r2];have YF:bg st t5 pb (ints (k::bs)):=YE.yM nk Fd oJ.1;have⟨p6,t6,mM,rX,yS,uI⟩:=YF.uw (β:=ah) (sz:=1) (n:=bs.length+1) (m:=gq.length) (lim:=8796093022208) (ds:=ints gq) AC (by rw[Zx,cS];rfl) (by rw[Zx,cS]) AC;rw[uI];have YK: ∀b∈aN p5,b∉aN pb:=λb hb dh=>by
       grind
      have Pl:bg st t6 p5 (bY (m.bL::es)++bY (e0::Bl)):=oJ.yM rX YK mM.1;rw[Zc];refine aL (d-(i+1)) _ _ AC ⟨i+1,p5,p6,es++e0::Bl,bs++gq,?_,AC,aM _,sd,?_,?_,λb hb=>⟨?_,λdh=>?_⟩,λb hb=>?_,?_,by have:=nk.1;have:=rX.1;omega⟩
      .grind
      .rw[<-Am]at Pl;exact Pl
      .rw[<-NL]at mM;exact mM
      .rcases EE b hb with h1|h1
       .exact(Pw b h1).1
       .omega
      .have h5l:=oJ.p9 b hb
       grind
      .rcases yS b hb with h1|h1
       .exact Pv b h1
       .have:=nk.1;omega
      .exact((K0.mono jN).fx nk (AF λb hb dh=>by have:=Bg b hb;have:=(Pw b dh).1;omega)).fx rX (AF λb hb dh=>by have:=Bg b hb;have:=Pv b dh;omega)
   .rw[aZ,j7]
    have hid:i=d:=AC
    subst hid;rw[hT]at hR;simp only[aV,aq,Zp];refine .mk ⟨_,Zq tB.1,?_⟩;rw[<-hR];exact⟨pe,pb,rfl,tB.sl.dU _,vX.sl.dU _,vX.J4,tB.J4⟩
  .rw[aZ Pb]at hR
   rw[bM Pb,bp,ae];exact bad s1 aD hR.symm
def mb (img:aj):Nat->ak->List bm->ak->Option (List bm×ak)
 |_,[],es,bs=>some (es,bs)
 |i,k::r,es,bs=>bif k==0 then mb img (i+1) r es bs else match lR img i k with
  |none=>none
  |some (fq,gq)=>mb img (i+1) r (es++fq) (bs++gq)
def vB (img:aj) (r:ak):Option (List bm×ak):=mb img 0 r [] []
theorem Zph (n:Nat) (img:aj) (r:ak) (st:St) (hl:img.length<1000000) (hr:r.length=12) (hn:3200<=n):
  Ok (Ip st (vB img r)) (run Bd n 246 [.str img,.agg (ints r)] st):=by
 obtain _|n:=n;omega;rw[Ze,h.age];unfold RQ bZ oq Gx Af sX
 try dsimp only
 rw[bT,dY,bK (by rw[Zx];exact hr),aq,ZJ,bK (by rw[Zx];exact hr)];have⟨R,hR⟩: ∃R,vB img r=R:=⟨_,rfl⟩;rw[hR];have bad: ∀s',aA st s'->R=none->Ok (Ip st R) ((cc st.length [.slice 0 none 0,.slice 0 none 0,.bool false]:M ah) s'):=λs' hp hn=>by
  rw[hn,Zp];exact .mk ⟨_,Zq hp,rfl⟩
 refine Ok.join λay mK=>?_
 refine Zj _ (λc y t=>∃(i z1 z2:Nat) (pe pb:ai) (es:List bm) (bs:ak),y=[.slice z1 pe es.length,.slice z2 pb bs.length,.i (i:Int)]/\(z1=4\/pe=none)/\(z2=1\/pb=none)/\i<=12/\12-i<=c/\R=mb img i (r.drop i) es bs/\bg st t pe (bY es)/\bg st t pb (ints bs)/\(∀b∈aN pe,b∉aN pb)/\es.length+1<=2^i/\bs.length=es.length) ?_ 12 n _ _ ⟨0,0,0,none,none,[],[],rfl,.inr rfl,.inr rfl,AC,AC,by rw[dE];exact hR.symm,.nil (.refl _),.nil (.refl _),λb hb=>(by cases hb),Do,rfl⟩ AC;rintro c y t ⟨i,z1,z2,pe,pb,es,bs,rfl,jA,gp,hi,hc,xa,tB,vX,Pw,Ko,hZ⟩ rec aL;rw[Zf 4 z1 pe _ jA,Zf 1 z2 pb _ gp,av,aq];have iX:2^i<=2^12:=oh EQ AC;by_cases aw:i<12
 .have gj:=JC (l:=r) (i:=i)
  have⟨k,hk⟩: ∃k,r.getD i 0=k:=⟨_,rfl⟩;rw[hk]at gj;have vR:(ints r)[i]? =some (.i k):=by rw[<-hk];exact Al
  rw[gj]at xa;rw[aX,Za,Zb (show aP (i:Int) 12=true from Zi aw)];simp only[br,cS];rw[iu vR,bj];by_cases mg:k=0
  .have hR0:R=mb img (i+1) (r.drop (i+1)) es bs:=by
    rw[xa]
    conv=>lhs;unfold mb
    rw[mg];rfl
   rw[mg,zZ,ae];simp only[aV,aq];rw[Zc];exact aL (12-(i+1)) _ _ AC ⟨i+1,4,1,pe,pb,es,bs,rfl,.inl rfl,.inl rfl,AC,aM _,hR0,tB,vX,Pw,AC,hZ⟩
  .have AU:R=(match lR img i k with|none=>none|some (fq,gq)=>mb img (i+1) (r.drop (i+1)) (es++fq) (bs++gq)):=by
    rw[xa]
    conv=>lhs;unfold mb
    rw[eN.2 mg];rfl
   rw[eN.2 mg,af,Zb (show aP (i:Int) 12=true from Zi aw),iu vR,bj];refine Ok.call (Zsh img hl i AC n k t AC) ?_;rintro o ⟨t1,jN,ho⟩;have KS:=tB.mono jN;have YE:=vX.mono jN;cases hS:lR img i k with
   |none=>
    rw[hS]at ho AU;simp only at ho;subst ho;refine⟨_,t1,rfl,?_⟩;rw[Zf 4 0 none _ (.inr rfl),Zf 1 0 none _ (.inr rfl),au,aq,bp,ae];exact bad t1 KS.1 AU
   |some qq=>
    have⟨fq,gq⟩:=qq;rw[hS]at ho AU;obtain⟨px,py,rfl,KY,YR,YT,_⟩:=ho;refine⟨_,t1,rfl,?_⟩;have gm:=D5 hS;simp only[aV,au,aq];rw[bw,af];have r1: ∀K:ah->M ah,dx px (fq.length*4) K t1=K (bY fq) t1:=λK=>by
     have:=iC KY K;rwa [Zu]at this
    rw[r1];have⟨p5,t5,oJ,nk,EE,CY⟩:=KS.uw (β:=ah) (sz:=4) (n:=es.length) (m:=fq.length) (lim:=2199023255552) (ds:=bY fq) AC (by rw[Zu]) (by rw[Zu]) AC;rw[CY];have uQ:=jN.len;have YL:=tB.p9;have ai6:=vX.p9;have YS:Sl t5 py (ints gq):=YR.fx nk (AF λb hb dh=>by have:=YT b hb;have:=YL b dh;omega);have r2: ∀K:ah->M ah,dx py gq.length K t5=K (ints gq) t5:=λK=>by
     have:=iC YS K;rwa [Zx]at this
    rw[r2];have YF:bg st t5 pb (ints bs):=YE.yM nk Fd oJ.1;have⟨p6,t6,mM,rX,yS,uI⟩:=YF.uw (β:=ah) (sz:=1) (n:=bs.length) (m:=gq.length) (lim:=8796093022208) (ds:=ints gq) AC (by rw[Zx,cS]) (by rw[Zx,cS]) AC;rw[uI];have YK: ∀b∈aN p5,b∉aN pb:=λb hb dh=>by
     grind
    have Pl:bg st t6 p5 (bY es++bY fq):=oJ.yM rX YK mM.1;rw[Zc];refine aL (12-(i+1)) _ _ AC ⟨i+1,4,1,p5,p6,es++fq,bs++gq,?_,.inl rfl,.inl rfl,AC,aM _,AU,?_,?_,λb hb dh=>?_,?_,?_⟩
    .rw[bz,bz]
     rfl
    .rw[Am];exact Pl
    .rw[NL];exact mM
    .have h5l:=oJ.p9 b hb
     grind
    .rw[bz];omega
    grind
 .rw[aZ,mK]
  rw[ly AC]at xa;simp only[aV,aq,Zp];refine .mk ⟨_,Zq tB.1,?_⟩;rw[xa];exact⟨pe,pb,rfl,tB.sl.dU _,vX.sl.dU _,vX.J4,tB.J4⟩
def si (e:bm) (out:List bm):Nat->Nat
 |0=>0
 |k+1=>bif fD e (out.getD k ⟨0,0,0,0⟩)then si e out k else k+1
def qL (out:List bm) (e:bm):List bm:=out.take (si e out out.length)++e::out.drop (si e out out.length)
def Z8 (l:List bm):List bm:=l.foldl qL []
theorem Zu9 (e:bm) (out:List bm): ∀k,si e out k<=k
 |0=>aM _
 |k+1=>by
  unfold si;cases fD e (out.getD k ⟨0,0,0,0⟩)with
  |true=>exact Nat.le_succ_of_le (Zu9 e out k)
  |false=>exact aM _
theorem VZ (out:List bm) (e:bm):(qL out e).length=out.length+1:=by
 grind[qL]
theorem Zw3 (e:bm):bY [e]=fk e:=by unfold bY;simp
theorem Zwr (l:List bm) (k:Nat):bY (l.take k)=(bY l).take (k*4):=by
 rcases Nat.le_total k l.length with h|h
 .have h2:=Am (l.take k) (l.drop k)
  rw[oX]at h2;have h3:(bY (l.take k)).length=k*4:=by rw[Zu,cR];omega
  rw[h2,<-h3];simp
 .rw[dF h,dF (by rw[Zu];omega)]
theorem ZvV (l:List bm) (k:Nat):bY (l.drop k)=(bY l).drop (k*4):=by
 rcases Nat.le_total k l.length with h|h
 .have h2:=Am (l.take k) (l.drop k)
  rw[oX]at h2;have h3:(bY (l.take k)).length=k*4:=by rw[Zu,cR];omega
  rw[h2,<-h3];simp
 .rw[ly h,ly (by rw[Zu];omega)]
  rfl
theorem ZoQ (n:Nat) (l:List bm) (z:Nat) (p:ai) (st:St) (hz:z=4\/p=none) (hs:Sl st p (bY l)) (hl:l.length<100000) (hn:l.length+10<=n):
  Ok (λo=>∃q s',o=(.val [.slice 4 q (Z8 l).length],s')/\aA st s'/\Sl s' q (bY (Z8 l))/\∀b∈aN q,st.length<=b) (run Bd n 247 [.slice z p l.length] st):=by
 obtain⟨n,rfl⟩: ∃m,n=m+2:=⟨n-2,AC⟩;rw[Ze,h.agf];unfold Sk DP cW pA N_ sT cN az bu sJ Li B0 Lb iH
 try dsimp only
 rw[Zf 4 z p _ hz,aq,ZJ];refine Ok.join λay mK=>?_
 refine Zj _ (λc y t=>∃(i z1:Nat) (po:ai) (out:List bm),y=[.slice z1 po out.length,.i (i:Int)]/\(z1=4\/po=none)/\i<=l.length/\l.length-i<=c/\aA st t/\Sl t po (bY out)/\out=(l.take i).foldl qL []/\out.length=i/\∀b∈aN po,st.length<=b) ?_ l.length (n+1) _ _ ⟨0,0,none,[],rfl,.inr rfl,cB _,AC,.refl _,Sl.nil _,rfl,rfl,λb hb=>by cases hb⟩ AC;rintro c y t ⟨i,z1,po,out,rfl,jA,hi,hc,jN,wb,EY,iz,ai8⟩ rec aL;rw[Zf 4 z1 po _ jA,av,aq];by_cases aw:i<l.length
 .obtain⟨i1,o1,rfl⟩:=hs.cF (by rw[Zu];omega)
  have di:l[i]? =some l[i]:=cu aw;have fM:l.take (i+1)=l.take i++[l[i]]:=lV aw;generalize l[i]=e at di fM;have cd:=hs.mono jN;have lde: ∀(K:ah->M ah) (u:St),Sl u (some (i1,o1)) (bY l)->bX i1 (i*4+o1) 4 K u=K (fk e) u:=λK u hu=>by
   rw[hu.yN (k:=i*4) (n:=4) (by rw[Zu];omega),D1 di]
  have aiZ:(l.take (i+1)).foldl qL []=qL out e:=by rw[fM,xQ,<-EY];rfl
  rw[aX];refine Ok.join λaH j7=>?_
  refine Ok.join λaW kW=>?_
  refine Zj _ (λc y u=>∃k:Nat,y=[.i (k:Int)]/\k<=out.length/\k<=c/\u=t/\si e out out.length=si e out k) ?_ out.length (n+1) _ _ Fd AC;rintro c2 y2 u ⟨k,rfl,hk,kU,rfl,xo⟩ dC kf;rw[av,aq];have fin:si e out out.length=k->Ok (λo=>∃q s',o=(.val [.slice 4 q (Z8 l).length],s')/\aA st s'/\Sl s' q (bY (Z8 l))/\∀b∈aN q,st.length<=b) (aW [.i (k:Int)] u):=λhp=>by
   subst kW;simp only[av,aq,br];rw[Zb (by rw[aY,bn,bn];omega)];have h1:=wb.lu (k*4);have AR:((bY out).take (k*4)).length=k*4:=by rw[cR,Zu];omega
   have e1: ∀K:ah->M ah,dx po (k*4) K u=K ((bY out).take (k*4)) u:=λK=>by
    have:=iC h1 K;rwa [AR]at this
   rw[e1];have⟨r1,s1,sb,X2⟩:=(bg.nil (aA.refl u)).Ol (β:=ah) (sz:=4) (n:=0) (m:=k) (lim:=2199023255552) (ds:=(bY out).take (k*4)) AC rfl AR AC;rw[X2,iG]at*
   rw[bc,Zb (Zi aw),lde _ s1 (cd.mono sb.1)];unfold fk;simp only[av,aq];have⟨r2,s2,dj,tt⟩:=sb.push (β:=ah) (sz:=4) (n:=0+k) (lim:=2199023255552) [.i e.slot,.i e.gen,.i e.key,.i e.value] AC (by rw[AR];omega) rfl AC;rw[tt,Zb (by rw[aY,bn,bn];omega)];have h2:=(wb.mono dj.1).cK (k:=k*4) (by rw[Zu];omega);have AS:((bY out).drop (k*4)).length=(out.length-k)*4:=by rw[eH,Zu];omega
   have e2: ∀K:ah->M ah,dx (cK true po (k*4)) ((out.length-k)*4) K s2=K ((bY out).drop (k*4)) s2:=λK=>by
    have:=iC h2 K;rwa [AS]at this
   rw[e2];have⟨r3,s3,kY,X3⟩:=dj.Ol (β:=ah) (sz:=4) (n:=0+k+1) (m:=out.length-k) (lim:=2199023255552) (ds:=(bY out).drop (k*4)) AC (by rw[bz,AR];simp;omega) AS AC;rw[X3,j7];simp only[aV,aq];have gT:(bY out).take (k*4)++[.i e.slot,.i e.gen,.i e.key,.i e.value]++(bY out).drop (k*4)=bY (qL out e):=by
    unfold qL;rw[hp,Am,Zwr,show e::out.drop k=[e]++out.drop k from rfl,Am,Zw3,ZvV,fR];rfl
   rw[gT]at kY;rw[Zc];refine aL (l.length-(i+1)) _ _ AC ⟨i+1,4,r3,qL out e,?_,.inl rfl,AC,aM _,jN.trans kY.1,kY.sl,aiZ.symm,by rw[VZ,iz],λb hb=>hU jN.len (kY.J4 b hb)⟩;rw[VZ,show 0+k+1+(out.length-k)=out.length+1 by omega];rfl
  rw[Za];cases k with
  |zero=>
   rw[aZ];simp only[au,aq,af];exact fin xo
  |succ k=>
   rw[aX,bc,Zb (Zi aw),br,lde _ u cd];unfold fk;simp only[av,aq];obtain⟨i5,o5,rfl⟩:=wb.cF (by rw[Zu];omega);have aO:out[k]? =some (out.getD k ⟨0,0,0,0⟩):=by
    rw[ef,cu (AC:k<out.length)];rfl
   have kd:si e out (k+1)=bif fD e (out.getD k ⟨0,0,0,0⟩)then si e out k else k+1:=rfl;generalize out.getD k ⟨0,0,0,0⟩=f at aO kd;have Ld:ar (((k+1:Nat):Int)-1)=(k:Int):=by rw[Zc];omega
   rw[Ld,bc,Zb (Zi),br,wb.yN (k:=k*4) (n:=4) (by rw[Zu];omega),D1 aO];unfold fk;simp only[av,aq];have Hd:=Sm n e f u;unfold fk at Hd;rw[Zk Hd];simp only[au,aq];grind
 .rw[aZ,mK]
  simp only[aV,aq,Zp];rw[dF AC]at EY;have HH:out=Z8 l:=EY;rw[HH]at wb⊢;exact .mk ⟨po,_,rfl,Zq jN,wb.dU _,ai8⟩
def uW (l:List ZH):ah:=(l.map Z1).flatten
def Il (l:List ZH):Prop:=∀x∈l,x.dH.length=12/\x.name.length<=28
theorem B6 {x:ZH} (h:x.dH.length=12):(Z1 x).length=14:=by
 simp[Z1,cQ,Zx,h]
theorem Jy: ∀ {l:List ZH},Il l->(uW l).length=l.length*14
 |[],_=>rfl
 |x::l,h=>by
  have h1:=B6 (h x tV).1;have h2:=Jy (l:=l) λy hy=>h y (xT _ hy)
  show(Z1 x++uW l).length=_;rw[bz,h1,h2,cQ];omega
theorem N3: ∀ {l:List ZH},Il l->∀ {j:Nat} {x:ZH},l[j]? =some x->∀k,k<14->(uW l)[j*14+k]? =(Z1 x)[k]?
 |[],_,_,_,h,_,_=>by cases h
 |y::l,hq,j,x,h,k,hk=>by
  have h1:=B6 (hq y tV).1;show(Z1 y++uW l)[j*14+k]? =_;cases j with
  |zero=>
   grind
  |succ j=>
   rw[kL AC,h1,show(j+1)*14+k-14=j*14+k by omega];exact N3 (λz hz=>hq z (xT _ hz)) (by simpa using h) k hk
theorem ZyQ (l:List ZH) (x:ZH):uW (l++[x])=uW l++Z1 x:=by unfold uW;simp
def xE (qs:List ZH) (q:ZH):Bool:=match qs.getLast? with
 |none=>true
 |some p=>decide (cmpL (dM p.name) (dM q.name)<0)
def mR (img:aj):List ZH->ak->Option (List ZH)
 |qs,[]=>some qs
 |qs,k::r=>match jC img k with
  |none=>none
  |some c=>match ZL c with
   |none=>none
   |some q=>bif xE qs q then mR img (qs++[q]) r else none
def wo (img:aj) (dir:Int):Option (List ZH×ak):=if dir=0 then some ([],[])else match jC img dir with
 |none=>none
 |some b=>match lG b with
  |none=>none
  |some l=>match mR img [] l with
   |none=>none
   |some qs=>some (qs,dir::l)
def Ms (st:St) (R:Option (List ZH×ak)) (o:Out ah×St):Prop:=∃s',aA st s'/\match R with
 |none=>o=(.val [.slice 0 none 0,.slice 0 none 0,.bool false],s')
 |some (qs,bs)=>∃z p z2 q,o=(.val [.slice z p qs.length,.slice z2 q bs.length,.bool true],s')/\(z=14\/p=none)/\(z2=1\/q=none)/\Sl s' p (uW qs)/\Sl s' q (ints bs)/\Il qs/\qs.length<=16/\bs.length<=17
theorem Zsr (n:Nat) (img:aj) (dir:Int) (st:St) (hl:img.length<1000000) (hn:3100<=n):
  Ok (Ms st (wo img dir)) (run Bd n 245 [.str img,.i dir] st):=by
 obtain⟨n,rfl⟩: ∃m,n=m+2:=⟨n-2,AC⟩;rw[Ze,h.agd];unfold T0 oi qh cW Zn js az cA sX eQ ba Li Lb iH
 try dsimp only
 rw[bT,av,aq,ZJ];have⟨R,hR⟩: ∃R,wo img dir=R:=⟨_,rfl⟩;rw[hR];have bad: ∀s',aA st s'->R=none->Ok (Ms st R) ((cc st.length [.slice 0 none 0,.slice 0 none 0,.bool false]:M ah) s'):=λs' hp hn=>by
  rw[hn,Zp];exact .mk ⟨_,Zq hp,rfl⟩
 unfold wo at hR;by_cases h0:dir=0
 .rw[bG h0]at hR
  rw[h0,zZ,ae,Zp];refine .mk ⟨_,Zq (.refl st),?_⟩;rw[<-hR];exact⟨0,none,0,none,rfl,.inr rfl,.inr rfl,Sl.nil _,Sl.nil _,λx hx=>(by cases hx),Do,Do⟩
 rw[bq h0]at hR;rw[eN.2 h0,af];refine Ok.call (F6 n img dir st hl) ?_;rintro o ⟨s1,aD,ho⟩;cases nO:jC img dir with
 |none=>
  rw[nO]at ho hR;simp only at ho;subst ho;refine⟨_,s1,rfl,?_⟩;rw[Zf 1 0 none _ (.inr rfl),au,aq,bp,ae];exact bad s1 aD hR.symm
 |some b=>
 rw[nO]at ho hR;obtain⟨p,rfl,hf,rU⟩:=ho;simp only at hR;refine⟨_,s1,rfl,?_⟩;rw[aV,au,aq,bw,af];refine Ok.call (Zpy (n+1) p b s1 hf.1 rU AC) ?_;rintro o ⟨s2,aU,ho⟩;have iX:=aD.trans aU;cases hg:lG b with
 |none=>
  rw[hg]at ho hR;simp only at ho;subst ho;refine⟨_,s2,rfl,?_⟩;rw[Zf 1 0 none _ (.inr rfl),au,aq,bp,ae];exact bad s2 iX hR.symm
 |some l=>
 rw[hg]at ho hR;obtain⟨pl,rfl,dI,gD⟩:=ho;simp only at hR;refine⟨_,s2,rfl,?_⟩;rw[aV,au,aq,bw,af];refine Ok.join λay mK=>?_
 have ai7:=dI.p9;refine Zj _ (λc y t=>∃(i z:Nat) (pq:ai) (qs:List ZH),y=[.slice z pq qs.length,.i (i:Int)]/\(z=14\/pq=none)/\i<=l.length/\l.length-i<=c/\bg st t pq (uW qs)/\Il qs/\qs.length=i/\mR img [] l=mR img qs (l.drop i)/\Sl t pl (ints l)/\(∀b∈aN pq,s2.length<=b)/\s2.length<=t.length) ?_ l.length (n+1) _ _ ⟨0,0,none,[],rfl,.inr rfl,cB _,AC,.nil iX,λx hx=>(by cases hx),rfl,by rw[dE],dI,λb hb=>(by cases hb),aM _⟩ AC;rintro c y t ⟨i,z,pq,qs,rfl,hz,hi,hc,fF,vL,Bg,KZ,PI,hpq,Ff⟩ rec aL;rw[Zf 14 z pq _ hz,av,aq];by_cases aw:i<l.length
 .have gj:=JC (l:=l) (i:=i) aw
  have⟨k,hk⟩: ∃k,l.getD i 0=k:=⟨_,rfl⟩;rw[hk]at gj;have vR:(ints l)[i]? =some (.i k):=by rw[<-hk];exact Al aw
  obtain⟨i1,o1,rfl⟩:=PI.cF (by rw[Zx];omega);rw[aX,bc,Zb (Zi aw),br,PI.dO vR,bj];rw[gj]at KZ;have fail: ∀u,aA st u->mR img qs (k::l.drop (i+1))=none->Ok (Ms st R) ((cc st.length [.slice 0 none 0,.slice 0 none 0,.bool false]:M ah) u):=λu hu hf=>by
   refine bad u hu ?_;rw[KZ,hf]at hR;exact hR.symm
  refine Ok.call (F6 n img k t hl) ?_;rintro o ⟨t1,jN,ho⟩;have Hx:=fF.mono jN;cases KB:jC img k with
  |none=>
   rw[KB]at ho;simp only at ho;subst ho;refine⟨_,t1,rfl,?_⟩;rw[Zf 1 0 none _ (.inr rfl),au,aq,bp,ae];exact fail t1 Hx.1 (by unfold mR;rw[KB])
  |some cb=>
   rw[KB]at ho;obtain⟨pc,rfl,O4,ahI⟩:=ho;refine⟨_,t1,rfl,?_⟩;rw[aV,au,aq,bw,af];refine Ok.call (ZtX (n+1) pc cb t1 O4.1 ahI AC) ?_;rintro o ⟨t2,YO,ho⟩;have sc:=Hx.mono YO;cases O6:ZL cb with
   |none=>
    rw[O6]at ho;simp only at ho;subst ho;refine⟨_,t2,rfl,?_⟩;rw[dY];have G4:(ints Em.dH).length=12:=rfl;unfold Z1;rw[bT,av,bK G4,au,aq,bK (by rw[cQ,cQ,G4]),Za,bp,ae];simp only[au,aq];rw[ae];exact fail t2 sc.1 (by unfold mR;rw[KB];simp only;rw[O6])
   |some q=>
    rw[O6]at ho;obtain⟨rfl,y9⟩:=ho;have PB:q.name.length<=28:=by have:=(SY O6).1;omega
    refine⟨_,t2,rfl,?_⟩;have mG:Z1 q=DV.str q.name::DV.int .i64 (q.mask:Int)::ints q.dH:=rfl;rw[dY,mG,bT,av];have ain:(ints q.dH).length=12:=by rw[Zx];exact y9
    rw[bK ain,au,aq,<-mG,bK (B6 y9)];have YU:mR img qs (k::l.drop (i+1))=bif xE qs q then mR img (qs++[q]) (l.drop (i+1))else none:=by
     conv=>lhs;unfold mR
     rw[KB];grind
    have go: ∀u,aA t2 u->xE qs q=true->Ok (Ms st R) ((ck (Z1 q) λi3=>bX i3 0 14 λcI=>cw 14 pq qs.length cI 1 586406201480 λp1=>rec [.slice 14 p1 (qs.length+1),.i (ar ((i:Int)+1))]) u):=λu hu Yz=>by
     rw[Yz,ae]at YU;have ai3:=sc.mono hu;have iA:aA u (u++[some ⟨false,Z1 q⟩]):= .new _ _;rw[Zz,Z9 (f:=false) (all:=Z1 q) Do (by rw[B6 y9];omega),dE,dF (by rw[B6 y9];omega)];have⟨p6,u6,mM,rX,yS,uI⟩:=(ai3.mono iA).uw (β:=ah) (sz:=14) (n:=qs.length) (m:=1) (lim:=586406201480) (ds:=Z1 q) AC (Jy vL) (by rw[B6 y9]) AC;rw[uI,Zc];have hlen:=((jN.trans YO).trans (hu.trans iA)).len;refine aL (l.length-(i+1)) _ _ AC ⟨i+1,14,p6,qs++[q],by rw[bz,iS];rfl,.inl rfl,AC,aM _,by rw[ZyQ];exact mM,λx hx=>?_,by rw[bz,iS,Bg],by rw[KZ,YU],?_,?_,by have:=rX.1;omega⟩
     .rcases gI.1 hx with hx|hx
      .exact vL x hx
      grind
     .exact(PI.mono ((jN.trans YO).trans (hu.trans iA))).fx rX (AF λb hb dh=>by have:=ai7 b hb;have:=hpq b dh;omega)
     grind
    rw[Za,bw,af,Za];by_cases vS:i=0
    .have ajg:qs=[]:=Fd
     rw[aZ];simp only[au,aq];rw[af,bK (B6 y9)];exact go t2 (.refl _) (by rw[ajg];rfl)
    .have hx:qs[i-1]? =some (qs[i-1]' AC):=Fd
     have Kz:qs.getLast?=qs[i-1]? :=by rw[List.getLast?_eq_getElem?,Bg]
     have ahH:=vL _ (ku (AC:i-1<qs.length));generalize qs[i-1]' AC=pv at hx ahH;obtain⟨i5,o5,rfl⟩:=sc.sl.cF (by rw[Jy vL];omega);have cO:(uW qs)[(i-1)*14]? =some (.str pv.name):=by
      have:=N3 vL hx 0 AC;rw[gQ]at this;rw[this];rfl
     rw[aX,bc,Zc,show(i:Int)-1=((i-1:Nat):Int) by omega,Zb (Zi),br,sc.sl.get cO,xX];refine Ok.cv (ZiJ (n+1) pv.name q.name AC AC AC AC t2) λt3 ajb=>?_
     simp only[av,au,aq];have Yz:xE qs q=decide (cmpL (dM pv.name) (dM q.name)<0):=by
      unfold xE;rw[Kz,hx]
     by_cases O0:cmpL (dM pv.name) (dM q.name)>=0
     .rw[aX O0]
      refine fail t3 (sc.mono ajb).1 ?_;rw[YU,Yz,bM AC];rfl
     .rw[aZ O0,bK (B6 y9)]
      grind
 .rw[aZ,mK]
  rw[ly AC]at KZ;rw[KZ]at hR;simp only[aV,aq];rw[Zz];have iA:aA t (t++[some ⟨false,[.i dir]⟩]):= .new _ _;have ai2:=fF.mono iA;have r1: ∀K:ah->M ah,dx pl (l.length*1) K (t++[some ⟨false,[.i dir]⟩])=K (ints l) (t++[some ⟨false,[.i dir]⟩]):=λK=>by
   have:=iC (PI.mono iA) K;rwa [Zx,<-cS l.length]at this
  rw[r1];have hod:bg st (t++[some (⟨false,[.i dir]⟩:bO)]) (some (t.length,0)) (ints [dir]):=⟨fF.1.trans iA,.inr ⟨t.length,rfl,fF.1.len,by simp[ints]⟩⟩;have⟨p6,u6,mM,rX,yS,uI⟩:=hod.uw (β:=ah) (sz:=1) (n:=1) (m:=l.length) (lim:=8796093022208) (ds:=ints l) AC rfl (by rw[Zx,cS]) AC;have ajf:=fF.p9;have ai1:bg st u6 pq (uW qs):=ai2.yM rX (λb hb dh=>by have:=ajf b hb;have:=cE.1 dh;omega) mM.1;rw[uI,Zp];refine .mk ⟨_,Zq mM.1,?_⟩;rw[<-hR];refine⟨14,pq,1,p6,?_,.inl rfl,.inl rfl,ai1.sl.dU _,?_,vL,AC,by simp;omega⟩
  .rw[cQ,tX 1 l.length]
  .have:ints (dir::l)=ints [dir]++ints l:=rfl
   rw[this];exact mM.sl.dU _
def lZ (img:aj) (top:Int) (u:Nat) (g:Int):Nat->Nat->List bB->Option (List bB)
 |0,_,l=>some l
 |c+1,i,l=>match mE img top i with
  |none=>none
  |some s=>bif decide (u<=i)then(bif ot s then lZ img top u g c (i+1) l else none)else(bif decide (s.gen<1)||decide (s.gen>g)then none else lZ img top u g c (i+1) (l++[s]))
def rH (img:aj) (x:cy):Option (List bB×ak):=match yz img x.cm with
 |none=>none
 |some pg=>bif decide (pg.length=(x.used.toNat+6)/7+pQ x.used.toNat)then(match lZ img x.cm x.used.toNat x.g (7*((x.used.toNat+6)/7)) 0 []with
  |none=>none
  |some l=>some (l,pg))else none
def QT (st:St) (R:Option (List bB×ak)) (o:Out ah×St):Prop:=∃s',aA st s'/\match R with
 |none=>o=(.val [.slice 0 none 0,.slice 0 none 0,.bool false],s')
 |some (l,pg)=>∃p q,o=(.val [.slice 3 p l.length,.slice 1 q pg.length,.bool true],s')/\Sl s' p (ca l)/\Sl s' q (ints pg)
theorem Zt2 {a:Nat} (h:a<=1792):pQ a<=17:=by
 grind[pQ]
theorem ZqI (n:Nat) (img:aj) (x:cy) (pc:ai) (st:St) (hl:img.length<1000000) (hx:pB x) (hn:4000<=n):
  Ok (QT st (rH img x)) (run Bd n 243 [.str img,.agg (dq x pc)] st):=by
 obtain _|n:=n;omega;rw[Ze,h.agb];unfold Sz MA qh az cW cA rr js mq eQ sX Li Af sI Lb iH
 try dsimp only
 rw[bT,dY];unfold dq;simp only[av,aV,aq,ZJ];have⟨g1,g2,g3,g4,_,_⟩:=ZR hx.g;have uR:=hx.u0;have wc:=hx.u1;have⟨u,hu⟩: ∃u:Nat,x.used=(u:Int):=⟨x.used.toNat,AC⟩;have Y5:x.used.toNat=u:=AC
 have zg:u<=1792:=AC
 have⟨R,hR⟩: ∃R,rH img x=R:=⟨_,rfl⟩;rw[hR,hu];have bad: ∀s',aA st s'->R=none->Ok (QT st R) ((cc st.length [.slice 0 none 0,.slice 0 none 0,.bool false]:M ah) s'):=λs' hp hn=>by
  rw[hn,Zp];exact .mk ⟨_,Zq hp,rfl⟩
 unfold rH at hR;rw[Y5]at hR;refine Ok.call (Zp4 n img x.cm st hl AC) ?_;rintro o ⟨s1,aD,ho⟩;have lv: ∀t,Ok (λo=>o=(.val [.i (((u+6)/7:Nat):Int)],t)) (run Bd n 266 [.i (u:Int)] t):=λt=>ZjL n u AC t
 cases hP:yz img x.cm with
 |none=>
  rw[hP]at ho hR;simp only at ho;subst ho;refine⟨_,s1,rfl,?_⟩;rw[Zf 1 0 none _ (.inr rfl),au,aq,Za,bp,ae];simp only[au,aq];rw[ae];exact bad s1 aD hR.symm
 |some pg=>
  rw[hP]at ho hR;obtain⟨q,rfl,hq⟩:=ho;simp only at hR;refine⟨_,s1,rfl,?_⟩;rw[aV,au,aq,Za,bw,af];obtain⟨_,e1,rfl⟩:=lv s1;rw[wS e1,av,aq];obtain⟨_,e2,rfl⟩:=Zr0 n u AC s1 AC;rw[wS e2];simp only[av,au,aq];have hfn:=Zt2 zg;rw[Zc (x:=(((u+6)/7:Nat):Int)+(pQ u:Int))];have XZ:((pg.length:Int)==(((u+6)/7:Nat):Int)+(pQ u:Int))=decide (pg.length=(u+6)/7+pQ u):=by
   have:=nE pg.length ((u+6)/7+pQ u) ((((u+6)/7:Nat):Int)+(pQ u:Int));exact this
  rw[XZ];cases hc:decide (pg.length=(u+6)/7+pQ u)with
  |false=>
   rw[hc,af]at hR;rw[bp,ae];grind
  |true=>
  rw[hc,ae]at hR;rw[bw,af];refine Ok.join λaH j7=>?_
  have⟨m,hm⟩: ∃m,7*((u+6)/7)=m:=⟨_,rfl⟩;rw[hm]at hR;refine Zj _ (λc y t=>∃(i z:Nat) (pl:ai) (l:List bB),y=[.slice z pl l.length,.i (i:Int)]/\(z=3\/pl=none)/\i<=m/\m-i<=c/\bg st t pl (ca l)/\l.length<=i/\lZ img x.cm u x.g m 0 []=lZ img x.cm u x.g (m-i) i l/\Sl t q (ints pg)/\(∀b∈aN pl,s1.length<=b)/\s1.length<=t.length) ?_ m n _ _ ⟨0,0,none,[],rfl,.inr rfl,cB _,AC,.nil aD,aM _,rfl,hq,λb hb=>(by cases hb),aM _⟩ AC;have Bg:=hq.p9;rintro c y t ⟨i,z,pl,l,rfl,hz,hi,OZ,fF,gD,aO,YV,lN,cd⟩ rec aL;rw[Zf 3 z pl _ hz,av,aq];obtain⟨_,e3,rfl⟩:=lv t;rw[Zk e3,av,aq,Zc (x:=7*(((u+6)/7:Nat):Int)),show 7*(((u+6)/7:Nat):Int)=(m:Int) by omega];by_cases aw:i<m
  .rw[aX]
   have⟨r,hr⟩: ∃r,m-i=r+1:=⟨m-i-1,AC⟩;rw[hr]at aO;have iB:m-(i+1)=r:=AC
   refine Ok.call (Zr6 n img x.cm i t hl AC AC) ?_;rintro _ ⟨t1,rfl,jN⟩;have Hx:=fF.mono jN;refine⟨_,t1,rfl,?_⟩;rw[dY];unfold eV;simp only[au,av,aq];have fail:lZ img x.cm u x.g (r+1) i l=none->Ok (QT st R) ((cc st.length [.slice 0 none 0,.slice 0 none 0,.bool false]:M ah) t1):=λhf=>by
    refine bad t1 Hx.1 ?_;rw[aO,hf]at hR;exact hR.symm
   rw[Za];cases hF:mE img x.cm i with
   |none=>
    rw[oA FS];simp only[au,aq];rw[Za,ae];simp only[au,aq];rw[ae];exact fail (by unfold lZ;rw[hF])
   |some s=>
    have eF:lZ img x.cm u x.g (r+1) i l=bif decide (u<=i)then(bif ot s then lZ img x.cm u x.g r (i+1) l else none)else(bif decide (s.gen<1)||decide (s.gen>x.g)then none else lZ img x.cm u x.g r (i+1) (l++[s])):=by
     conv=>lhs;unfold lZ
     rw[hF]
    rw[oz FS,show(some s).getD gZ=s from rfl];have K4:((s.live==false)&&((s.gen==0)&&((s.block==0)&&true)))=ot s:=rfl;rw[K4,Za];by_cases hiu:u<=i
    .rw[aX hiu]at eF
     rw[aX];simp only[au,aq];rw[Za];cases xw:ot s with
     |false=>
      rw[xw,af]at eF;rw[bp,ae];simp only[au,aq];rw[ae];exact fail eF
     |true=>
      rw[xw,ae]at eF;rw[bw,af,Za,bM (AC:¬(i:Int)<(u:Int)),af];simp only[au,aq];rw[af,Za,af];simp only[aV,aq];rw[Zc];exact aL (m-(i+1)) _ _ AC ⟨i+1,3,pl,l,rfl,.inl rfl,AC,aM _,Hx,AC,by rw[aO,eF,iB],YV.mono jN,lN,by have:=jN.len;omega⟩
    .rw[aZ hiu]at eF
     rw[aZ];simp only[au,aq];rw[Za,af,Za,aS (AC:(i:Int)<(u:Int)),ae,Za];by_cases oG:s.gen<1
     .rw[aS oG,Bool.true_or,ae]at eF
      rw[aX oG];simp only[au,aq];rw[ae];exact fail eF
     .rw[bM oG,wD]at eF
      rw[aZ oG];simp only[au,aq];by_cases qG:s.gen>x.g
      .rw[aX qG]at eF
       rw[aX qG];exact fail eF
      .rw[aZ qG]at eF
       rw[aZ qG,Za,ae];have Fc:([.bool s.live,.i s.gen,.i s.block]:ah)=eV s:=rfl;rw[Fc];have iA:aA t1 (t1++[some ⟨false,eV s⟩]):= .new _ _;rw[Zz,Z9 (f:=false) (all:=eV s) Do (by show 0+3<=3;omega),dE,dF (show(eV s).length<=3 from aM _)];have⟨p6,u6,mM,rX,yS,uI⟩:=(Hx.mono iA).uw (β:=ah) (sz:=3) (n:=l.length) (m:=1) (lim:=2932031007402) (ds:=eV s) AC (ZB l) rfl AC;rw[uI];simp only[aV,aq];rw[Zc];have hlen:=(jN.trans iA).len;refine aL (m-(i+1)) _ _ AC ⟨i+1,3,p6,l++[s],by rw[bz,iS];rfl,.inl rfl,AC,aM _,?_,by rw[bz,iS];omega,by rw[aO,eF,iB],?_,λb hb=>?_,by have:=rX.1;omega⟩
       .rw[Jc]
        have:ca [s]=eV s:=by unfold ca;simp
        rw[this];exact mM
       .exact(YV.mono (jN.trans iA)).fx rX (AF λb hb dh=>by have:=Bg b hb;have:=lN b dh;omega)
       grind
  .rw[aZ,j7]
   rw[show m-i=0 by omega]at aO;rw[aO]at hR;simp only[aV,aq,Zp];refine .mk ⟨_,Zq fF.1,?_⟩;rw[<-hR];exact⟨pl,q,rfl,fF.sl.dU _,YV.dU _⟩
def nf (l:List bB) (u g:Int):Nat->Int->ak->Option (ak)
 |0,_,_=>none
 |f+1,k,out=>bif k==0 then some out else(bif decide (k>u)then none else(match l[(k-1).toNat]? with
  |none=>none
  |some s=>bif s.live then none else(bif decide (s.gen>=g)then none else(bif decide (k-1∈out)then none else nf l u g f s.block (out++[k-1])))))
def tM (g:Int) (out:ak) (i:Nat) (s:bB):Bool:=bif s.live then true else(bif decide (s.gen<g)then decide ((i:Int)∈out)else(bif s.gen==g then s.block==0 else true))
def sS (g:Int) (out:ak):Nat->List bB->Bool
 |_,[]=>true
 |i,s::r=>bif tM g out i s then sS g out (i+1) r else false
def w4 (l:List bB) (x:cy):Option (ak):=match nf l x.used x.g (l.length+2) x.free []with
 |none=>none
 |some out=>bif sS x.g out 0 l then some out else none
def DK (st:St) (R:Option (ak)) (o:Out ah×St):Prop:=∃s',aA st s'/\match R with
 |none=>o=(.val [.slice 0 none 0,.bool false],s')
 |some l=>∃z p,o=(.val [.slice z p l.length,.bool true],s')/\(z=1\/p=none)/\Sl s' p (ints l)
theorem IW {x:bB} (h:l[j]? =some x) (k:Nat) (hk:k<3:=by omega):(ca l)[j*3+k]? =(eV x)[k]? :=by
 have:=Va h;grind
theorem Zsj (n:Nat) (l:List bB) (z:Nat) (p:ai) (x:cy) (pc:ai) (st:St) (hz:z=3\/p=none) (hs:Sl st p (ca l)) (gD:(l.length:Int)=x.used) (nN:l.length<=1792) (hr: ∀s∈l,s.live=false->0<=s.block/\s.block<=5000) (hf:0<=x.free/\x.free<=5000) (hn:4000<=n):
  Ok (DK st (w4 l x)) (run Bd n 244 [.slice z p l.length,.agg (dq x pc)] st):=by
 obtain _|n:=n;omega;rw[Ze,h.agc];unfold T7 yd fJ Q_ cN N_ pJ az Zm bu kB vi Li Lb ep ba iH
 try dsimp only
 rw[Zf 3 z p _ hz,dY];unfold dq;simp only[av,aV,aq,ZJ];have⟨R,hR⟩: ∃R,w4 l x=R:=⟨_,rfl⟩;rw[hR];have bad: ∀s',aA st s'->R=none->Ok (DK st R) ((cc st.length [.slice 0 none 0,.bool false]:M ah) s'):=λs' hp hn=>by
  rw[hn,Zp];exact .mk ⟨_,Zq hp,rfl⟩
 unfold w4 at hR;have Ft: ∀(t:St) (j:Nat) (s:bB),Sl t p (ca l)->l[j]? =some s->∃i o,p=some (i,o)/\(∀K:DV->M ah,bD i (j*3+o) K t=K (.bool s.live) t)/\(∀K:DV->M ah,bD i (j*3+o+1) K t=K (.i s.gen) t)/\∀K:DV->M ah,bD i (j*3+o+2) K t=K (.i s.block) t:=λt j s ht hj=>by
  have uL:=(eB.1 hj).1;obtain⟨i,o,rfl⟩:=ht.cF (by rw[ZB];omega);refine⟨i,o,rfl,λK=>?_,λK=>?_,λK=>?_⟩
  .have:=ht.get (β:=ah) (by rw[IW hj 0];rfl) K
   exact this
  .have:=ht.get (β:=ah) (by rw[IW hj 1];rfl) K
   rw[show j*3+o+1=j*3+1+o by omega];exact this
  .have:=ht.get (β:=ah) (by rw[IW hj 2];rfl) K
   rw[show j*3+o+2=j*3+2+o by omega];exact this
 refine Ok.join λay mK=>?_
 refine Zj _ (λc y t=>∃(k:Int) (f z1:Nat) (po:ai) (out:ak),y=[.slice z1 po out.length,.i k]/\(z1=1\/po=none)/\(0<=k/\k<=5000)/\out.length+f=l.length+1/\f<=c/\bg st t po (ints out)/\out.Nodup/\(∀j∈out,0<=j/\j<(l.length:Int))/\nf l x.used x.g (l.length+2) x.free []=nf l x.used x.g (f+1) k out/\Sl t p (ca l)) ?_ (l.length+1) n _ _ ⟨x.free,l.length+1,0,none,[],rfl,.inr rfl,hf,Do,aM _,.nil (.refl _),.nil,λj hj=>(by cases hj),rfl,hs⟩ AC;rintro c y t ⟨k,f,z1,po,out,rfl,jA,hk,eE,O4,fF,jz,gT,aO,cd⟩ rec aL;rw[Zf 1 z1 po _ jA,av,aq];have j6:(ints out).length=out.length*1:=by rw[Zx,cS]
 have fail: ∀u,aA st u->nf l x.used x.g (f+1) k out=none->Ok (DK st R) ((cc st.length [.slice 0 none 0,.bool false]:M ah) u):=λu hu hf=>by
  refine bad u hu ?_;rw[aO,hf]at hR;exact hR.symm
 by_cases mg:k=0
 .have ah8:nf l x.used x.g (f+1) k out=some out:=by unfold nf;rw[mg];rfl
  rw[aO,ah8]at hR;simp only at hR;rw[mg,oz FS,mK];simp only[aV,aq];refine Ok.join λaH j7=>?_
  refine Zj _ (λc y u=>∃i:Nat,y=[.i (i:Int)]/\i<=l.length/\l.length-i<=c/\u=t/\sS x.g out 0 l=sS x.g out i (l.drop i)) ?_ l.length n _ _ ⟨0,rfl,cB _,AC,rfl,rfl⟩ AC;rintro c2 y2 u ⟨i,rfl,hi,kU,rfl,wa⟩ dC kf;rw[av,aq];by_cases aw:i<l.length
  .have di:l[i]? =some l[i]:=cu aw
   have gj:l.drop i=l[i]::l.drop (i+1):=jd aw;generalize l[i]=s at di gj;rw[gj]at wa;have HD:sS x.g out 0 l=bif tM x.g out i s then sS x.g out (i+1) (l.drop (i+1))else false:=wa;obtain⟨pi,LH,rfl,Bm,ld1,ld2⟩:=Ft u i s cd di;have AP:tM x.g out i s=true->Ok (DK st R) (dC [.i (ar ((i:Int)+1))] u):=λhb=>by
    rw[hb,ae]at HD;rw[Zc];exact kf (l.length-(i+1)) _ _ AC ⟨i+1,rfl,AC,aM _,rfl,HD⟩
   have LV:tM x.g out i s=false->Ok (DK st R) ((cc st.length [.slice 0 none 0,.bool false]:M ah) u):=λhb=>by
    rw[hb,af]at HD;rw[HD]at hR;exact bad u fF.1 hR.symm
   rw[aX,bc,Zb (Zi aw),br,Bm,sH,Za];cases eX:s.live with
   |true=>
    have hb:tM x.g out i s=true:=by unfold tM;rw[eX];rfl
    rw[bw,af];simp only[au,aq];rw[Za,af];simp only[au,aq];rw[Za,af,bc,Zb (Zi aw),Bm,sH,Za,eX,bw,af];simp only[au,aq];rw[Za,af];simp only[au,aq];rw[af];exact AP hb
   |false=>
    have hb:tM x.g out i s=(bif decide (s.gen<x.g)then decide ((i:Int)∈out)else(bif s.gen==x.g then s.block==0 else true)):=by unfold tM;rw[eX];rfl
    rw[bp,ae,bc,Zb (Zi aw),ld1];simp only[bj,au,aq];rw[Za];have second:decide (s.gen<x.g)=false\/decide ((i:Int)∈out)=true->∀cq:ah->M ah,(∀b,cq [.bool b] u=(bif b then(cc st.length [.slice 0 none 0,.bool false]:M ah)else dC [.i (ar ((i:Int)+1))]) u)->
      Ok (DK st R) ((bif s.gen==x.g then cq [.bool (!(s.block==0))]else cq [.bool false]) u):=λni cq C9=>by
     cases uJ:(s.gen==x.g)with
     |true=>
      have alh:=eq_of_beq uJ;rw[ae,C9];have dh:tM x.g out i s=(s.block==0):=by
       rw[hb,aZ,uJ,ae]
      cases hZ:(s.block==0)with
      |true=>rw[bw,af];exact AP (by rw[dh,hZ])
      |false=>rw[bp,ae];exact LV (by rw[dh,hZ])
     |false=>
      rw[af,C9,af];refine AP ?_;rw[hb,uJ,af];rcases ni with h1|h1
      .rw[h1];rfl
      .rw[h1];cases decide (s.gen<x.g)<;>rfl
    have adw:decide (s.gen<x.g)=false\/decide ((i:Int)∈out)=true->Ok (DK st R) ((bJ (some (pi,LH)) λi2 o1=>aB (aP (i:Int) l.length)<|bD i2 (i*3+o1) λd1=>uu d1 λx1=>
      cT (λaaT=>gK aaT λb4 aaU=>aI aaU<|cT (λakv=>gK akv λb5 akw=>aI akw<|
       (bif b5 then(cc st.length [.slice 0 none 0,.bool false]:M ah)else dC [.i (ar ((i:Int)+1))])) λgU=>
      bif b4 then bJ (some (pi,LH)) λi3 o2=>aB (aP (i:Int) l.length)<|bD i3 (i*3+o2+2) λd2=>de .i64 d2 λx2=>gU [.bool (!(x2==0))]
      else gU [.bool false]) λdA=>
      bif !x1 then bJ (some (pi,LH)) λi4 o3=>aB (aP (i:Int) l.length)<|bD i4 (i*3+o3+1) λd3=>de .i64 d3 λx3=>dA [.bool (x3==x.g)]
      else dA [.bool false]) u):=λni=>by
     rw[bc,Zb (Zi aw),Bm,sH,Za,eX,bp,ae,bc,Zb (Zi aw),ld1];simp only[bj,au,aq];refine Ok.join λgU ait=>?_
     have:=second ni gU (λb=>by rw[ait];simp only[au,aq]);cases uJ:(s.gen==x.g)with
     |true=>
      rw[uJ,ae]at this;rw[ae,bc,Zb (Zi aw),ld2,bj];exact this
     |false=>
      rw[uJ,af]at this;rw[af];exact this
    cases hg:decide (s.gen<x.g)with
    |true=>
     rw[ae];refine Ok.call (BY n 1 out (i:Int) po u (.inl rfl) fF.sl) ?_;rintro _ rfl;refine⟨_,u,rfl,?_⟩;simp only[au,aq];rw[Za];cases ho:decide ((i:Int)∈out)with
     |true=>
      rw[bw,af];exact adw (.inr ho)
     |false=>
      rw[bp,ae];simp only[au,aq];rw[ae];exact LV (by rw[hb,hg,ae,ho])
    |false=>
     rw[af];simp only[au,aq];rw[Za,af];exact adw (.inl hg)
  .rw[aZ,j7]
   rw[ly AC]at wa;rw[wa,show sS x.g out i []=true from rfl,ae]at hR;simp only[aq,Zp];refine .mk ⟨_,Zq fF.1,?_⟩;rw[<-hR];exact⟨1,po,rfl,.inl rfl,fF.sl.dU _⟩
 .have eF:nf l x.used x.g (f+1) k out=(bif decide (k>x.used)then none else(match l[(k-1).toNat]? with
    |none=>none
    |some s=>bif s.live then none else(bif decide (s.gen>=x.g)then none else(bif decide (k-1∈out)then none else nf l x.used x.g f s.block (out++[k-1]))))):=by
   conv=>lhs;unfold nf
   rw[eN.2 mg,af]
  rw[eN.2 mg,bp,ae,Za];by_cases Kx:k>x.used
  .rw[aX Kx]at eF
   rw[aX Kx];simp only[au,aq];rw[Za,ae];simp only[au,aq];rw[Za,ae];simp only[au,aq];rw[ae];exact fail t fF.1 eF
  .rw[aZ Kx]at eF
   have⟨j,hj⟩: ∃j:Nat,k-1=(j:Int):=⟨(k-1).toNat,AC⟩;have uL:j<l.length:=AC
   have di:l[j]? =some l[j]:=cu uL;have lf:l[j]∈l:=ku uL;generalize l[j]=s at di lf;rw[hj,br,di]at eF;simp only at eF;obtain⟨pi,LH,rfl,Bm,ld1,ld2⟩:=Ft t j s cd di;rw[aZ Kx,bc,Zc (x:=k-1),hj,Zb (Zi uL),br,Bm];simp only[sH,au,aq];rw[Za];cases eX:s.live with
   |true=>
    rw[eX,ae]at eF;rw[ae];simp only[au,aq];rw[Za,ae];simp only[au,aq];rw[ae];exact fail t fF.1 eF
   |false=>
    rw[eX,af]at eF;rw[af,bc,Zb (Zi uL),ld1];simp only[bj,au,aq];rw[Za];cases hg:decide (s.gen>=x.g)with
    |true=>
     rw[hg,ae]at eF;rw[ae];simp only[au,aq];rw[ae];exact fail t fF.1 eF
    |false=>
     rw[hg,af]at eF;rw[af];refine Ok.call (BY n 1 out (j:Int) po t (.inl rfl) fF.sl) ?_;rintro _ rfl;refine⟨_,t,rfl,?_⟩;simp only[au,aq];cases ho:decide ((j:Int)∈out)with
     |true=>
      rw[ho,ae]at eF;rw[ae];exact fail t fF.1 eF
     |false=>
      rw[ho,af]at eF;have cD:(j:Int)∉out:=FW ho;have acE:(out++[(j:Int)]).Nodup:=sE.2 ⟨jz,zY.2 ⟨Do,.nil⟩,λa ha b hb e=>cD (by rw[<-cE.1 hb,<-e];exact ha)⟩;have acw: ∀a∈out++[(j:Int)],0<=a/\a<(l.length:Int):=λa ha=>by
       rcases gI.1 ha with ha|ha
       .exact gT a ha
       .rw[cE.1 ha];omega
      have Hw:=Qf l.length _ acE acw;rw[bz,iS]at Hw;obtain⟨f,rfl⟩: ∃f',f=f'+1:=⟨f-1,AC⟩;rw[af];have iA:aA t (t++[some ⟨false,[.i (j:Int)]⟩]):= .new _ _;rw[Zz,Z9 (f:=false) (all:=[.i (j:Int)]) Do Do,dE,dF Do];have⟨p6,u6,mM,rX,yS,uI⟩:=(fF.mono iA).uw (β:=ah) (sz:=1) (n:=out.length) (m:=1) (lim:=8796093022208) (ds:=[.i (j:Int)]) AC j6 rfl AC;rw[uI];have acX:Sl u6 (some (pi,LH)) (ca l):=by
       refine(hs.mono (mM.1))
      have⟨pi2,po2,e,_,_,aj1⟩:=Ft u6 j s acX di;cases e;rw[bc,Zb (Zi uL),aj1];simp only[bj];refine aL f _ _ AC ⟨s.block,f,1,p6,out++[(j:Int)],by rw[bz,iS],.inl rfl,hr s lf eX,by rw[bz,iS];omega,aM _,by rw[Nn];exact mM,acE,acw,by rw[aO,eF],acX⟩
def zn (m:Int) (l:ak) (a:Int):ak:=if 0<=a/\a<m/\a∉l then l.filter (λx=>decide (x<a))++a::l.filter (λx=>decide (a<x))else l
theorem N1 {l:ak} {a:Int} (h:kN l):kN (zn m l a)/\∀k,k∈zn m l a↔k∈l\/(k=a/\0<=a/\a<m):=by
 unfold zn;by_cases hc:0<=a/\a<m/\a∉l
 .rw[bG hc]
  refine⟨?_,λk=>?_⟩
  .unfold kN
   rw[Mb];refine⟨List.Pairwise.sublist List.filter_sublist h,List.pairwise_cons.2 ⟨λx hx=>?_,List.Pairwise.sublist List.filter_sublist h⟩,λx hx y hy=>?_⟩
   .grind
   grind
  grind
 grind
def qA (m:Int):ak->ak->Option (ak)
 |[],r=>some r
 |k::a,r=>bif decide (k<2)then none else(bif decide (k∈r)then none else qA m a (zn m r k))
def j4 (u:Int) (l:List bB) (e:bm) (k:Int):Bool:=bif decide (e.slot>=u)then false else(match l[e.slot.toNat]? with
 |none=>false
 |some s=>(s.live==true)&&((s.gen==e.gen)&&((s.block==k)&&true)))
def ju (u:Int) (l:List bB):List bm->ak->Bool
 |e::es,k::ks=>bif j4 u l e k then ju u l es ks else false
 |_,_=>true
def iP (im:aj) (u:Int) (l:List bB):List ZH->List dJ->ak->Int->Option (List dJ×ak×Int)
 |[],hs,all,lv=>some (hs,all,lv)
 |q::r,hs,all,lv=>match vB im q.dH with
  |none=>none
  |some (es,ns)=>bif ju u l es ns then iP im u l r (hs++[⟨q.name,Z8 es⟩]) (all++ns) (lv-es.length)else none
def oO (l:List bB):Nat:=(l.filter (·.live)).length
def vz (img:aj) (x:cy):Option (eR×ak):=bif !ZT x then none else(bif decide (x.blocks>((img.length/64:Nat):Int))then none else
 (match rH (img.take (64*x.blocks.toNat)) x with
 |none=>none
 |some (l,pg)=>match w4 l x with
  |none=>none
  |some fr=>match wo (img.take (64*x.blocks.toNat)) x.dir with
   |none=>none
   |some (qs,bs)=>match iP (img.take (64*x.blocks.toNat)) x.used l qs [] (pg++bs) (oO l)with
    |none=>none
    |some (hs,all,lv)=>match qA x.blocks all [0,1]with
     |none=>none
     |some r=>bif lv==0 then(bif decide (r.length=all.length+2)then some (⟨x.blocks,x.dc,x.g,hs,l.map (·.gen),fr⟩,r)else none)else none))
theorem ZnG {k:Int} {m:jV} (h:uU img k=some m):pH m=true/\m.kids.length<=12:=by
 unfold uU at h;cases hl:jC img k with
 |none=>rw[hl]at h;cases h
 |some l=>rw[hl]at h;exact M6 h
theorem Uz {img:aj} : ∀(j:Nat) (ks:ak) (e:bm) (es:List bm) (bs:ak),j1 img j ks e=some (es,bs)->∀a∈es,0<=a.slot/\a.slot<1792
 |0,_,_,_,_,h,a,ha=>by cases h;cases ha
 |j+1,ks,e,es,bs,h,a,ha=>by
  unfold j1 at h;cases h1:j1 img j ks e with
  |none=>rw[h1]at h;cases h
  |some q=>
   have⟨yJ,yC⟩:=q;have i1:=Uz j ks e yJ yC h1;rw[h1]at h;simp only at h;cases h2:uU img (ks.getD j 0)with
   |none=>rw[h2]at h;cases h
   |some m=>
    rw[h2]at h;simp only at h;cases h3:decide (m.kids.length=j)with
    |false=>rw[h3]at h;cases h
    |true=>
     rw[h3,ae]at h;cases h4:j1 img j m.kids m.bL with
     |none=>rw[h4]at h;cases h
     |some q=>
      have⟨AN,wV⟩:=q;have i2:=Uz j m.kids m.bL AN wV h4;rw[h4]at h;simp only at h;cases h5:fD e m.bL with
      |false=>rw[h5]at h;cases h
      |true=>
       rw[h5,ae]at h;cases h;rcases gI.1 ha with ha|ha
       .exact i1 a ha
       .rcases eM.1 ha with rfl|ha
        .exact IP (ZnG h2).1
        .exact i2 a ha
theorem ZvI {k:Int} {bs:ak} (h:lR img d k=some (es,bs)): ∀a∈es,0<=a.slot/\a.slot<1792:=by
 unfold lR at h;cases h2:uU img k with
 |none=>rw[h2]at h;cases h
 |some m=>
  rw[h2]at h;simp only at h;cases h3:decide (m.kids.length=d)with
  |false=>rw[h3]at h;cases h
  |true=>
   rw[h3,ae]at h;cases h4:j1 img d m.kids m.bL with
   |none=>rw[h4]at h;cases h
   |some q=>
    have⟨AN,wV⟩:=q;rw[h4]at h;cases h;intro a ha;rcases eM.1 ha with rfl|ha
    .exact IP (ZnG h2).1
    .exact Uz d m.kids m.bL AN wV h4 a ha
theorem TM {img:aj} : ∀(r:ak) (i:Nat) (es:List bm) (bs:ak) (iy:List bm) (gV:ak),mb img i r es bs=some (iy,gV)->i+r.length<=12->(∀a∈es,0<=a.slot/\a.slot<1792)->es.length+1<=2^i->bs.length=es.length->(∀a∈iy,0<=a.slot/\a.slot<1792)/\iy.length+1<=2^(i+r.length)/\gV.length=iy.length
 |[],i,es,bs,iy,gV,h,_,h1,h2,h3=>by cases h;exact⟨h1,h2,h3⟩
 |k::r,i,es,bs,iy,gV,h,hi,h1,h2,h3=>by
  rw[cQ]at hi⊢;unfold mb at h;cases hk:(k==0)with
  |true=>
   rw[hk,ae]at h;have:=TM r (i+1) es bs iy gV h AC h1 AC h3;rwa [show i+1+r.length=i+(r.length+1) by omega]at this
  |false=>
   rw[hk,af]at h;cases ht:lR img i k with
   |none=>rw[ht]at h;cases h
   |some q=>
    have⟨fq,gq⟩:=q;rw[ht]at h;have⟨l1,l2⟩:=D5 ht;have dI:=ZvI ht;have:=TM r (i+1) (es++fq) (bs++gq) iy gV h AC Fd (by rw[bz];omega) (by rw[bz,bz];omega);rwa [show i+1+r.length=i+(r.length+1) by omega]at this
theorem Zwp {bs:ak} (h:vB img r=some (es,bs)) (hr:r.length=12):(∀a∈es,0<=a.slot/\a.slot<1792)/\es.length<4096/\bs.length=es.length:=by
 have:=TM r 0 [] [] es bs h AC (λa ha=>by cases ha) Do rfl;rw[hr]at this;grind
theorem Zup {s:bB} (h:mE img top i=some s):ZN s=true:=by
 unfold mE at h;cases h1:gS img top with
 |none=>rw[h1]at h;cases h
 |some f=>
  rw[h1]at h;simp only at h;cases h2:gS img (f.getD (i/112) 0)with
  |none=>rw[h2]at h;cases h
  |some g=>
   rw[h2]at h;simp only at h;cases h3:kI img (g.getD (i/7%16) 0)with
   |none=>rw[h3]at h;cases h
   |some l=>
    rw[h3]at h;simp only at h;have hm:=sD h;unfold kI at h3;by_cases hk:g.getD (i/7%16) 0=0
    .rw[bG hk]at h3
     cases h3;rw[List.eq_of_mem_replicate hm];rfl
    .rw[bq hk]at h3
     cases h4:jC img (g.getD (i/7%16) 0)with
     |none=>rw[h4]at h3;cases h3
     |some b=>
      rw[h4]at h3;grind[ZO]
theorem UM {img:aj} {top:Int} {u:Nat} {g:Int} : ∀(c i:Nat) (l l':List bB),lZ img top u g c i l=some l'->(∀s∈l,ZN s=true)->l.length=min i u->(∀s∈l',ZN s=true)/\l'.length=min (i+c) u
 |0,i,l,l',h,h1,h2=>by cases h;exact⟨h1,h2⟩
 |c+1,i,l,l',h,h1,h2=>by
  unfold lZ at h;cases hf:mE img top i with
  |none=>rw[hf]at h;cases h
  |some s=>
   rw[hf]at h;simp only at h;by_cases hui:u<=i
   .rw[aX hui]at h
    cases hz:ot s with
    |false=>rw[hz]at h;cases h
    |true=>
     rw[hz,ae]at h;have:=UM c (i+1) l l' h h1 AC;rwa [show i+1+c=i+(c+1) by omega]at this
   .rw[aZ hui]at h
    cases hz:(decide (s.gen<1)||decide (s.gen>g))with
    |true=>rw[hz]at h;cases h
    |false=>
     rw[hz,af]at h;have:=UM c (i+1) (l++[s]) l' h (λa ha=>by
      rcases gI.1 ha with ha|ha
      .exact h1 a ha
      .rw[cE.1 ha];exact Zup hf) (by rw[bz,iS];omega)
     rwa [show i+1+c=i+(c+1) by omega]at this
theorem Vl {x:cy} (hx:pB x) (h:rH img x=some (l,pg)):(∀s∈l,ZN s=true)/\(l.length:Int)=x.used/\l.length<=1792/\pg.length<=273:=by
 have⟨g1,g2,g3,g4,_,_⟩:=ZR hx.g;have uR:=hx.u0;have wc:=hx.u1;unfold rH at h;cases hp:yz img x.cm with
 |none=>rw[hp]at h;cases h
 |some p=>
  rw[hp]at h;simp only at h;cases hd:decide (p.length=(x.used.toNat+6)/7+pQ x.used.toNat)with
  |false=>rw[hd]at h;cases h
  |true=>
   rw[hd,ae]at h;cases hs:lZ img x.cm x.used.toNat x.g (7*((x.used.toNat+6)/7)) 0 []with
   |none=>rw[hs]at h;cases h
   |some l'=>
    rw[hs]at h;cases h;have⟨a1,a2⟩:=UM _ _ _ _ hs (λs hs=>by cases hs) Do;have hfn:=Zt2 (a:=x.used.toNat) AC;grind
theorem ZkU {s:bB} (h:ZN s=true) (hl:s.live=false):0<=s.block/\s.block<=5000:=by
 grind[ZN,lF]
set_option maxHeartbeats 2000000
open Go.Gv
def zz (a b c:Nat):ah:=[.i 0,.i 0,.i 0,.slice a none 0,.slice b none 0,.slice c none 0]
def vn (st:St) (R:Option (eR×ak)) (o:Out ah×St):Prop:=∃s',aA st s'/\match R with
 |none=>o=(.val [.agg (zz 0 0 0),.slice 0 none 0,.bool false],s')
 |some (y,r)=>∃z1 p1 p2 p3 q,o=(.val [.agg (dw y z1 p1 1 p2 1 p3),.slice 1 q r.length,.bool true],s')/\(z1=2\/p1=none)/\jK s' y p1 p2 p3/\Sl s' q (ints r)
theorem ZwC {l:List ZH} (h:Il l) {x:ZH} (hj:l[j]? =some x):((uW l).drop (j*14+2)).take 12=ints x.dH:=by
 have hx:=h x (sD hj);refine tU λk=>?_
 rw[xR];split
 .rename_i hk
  rw[BG,show j*14+2+k=j*14+(2+k) by omega,N3 h hj (2+k) AC];show(DV.str x.name::DV.int .i64 x.mask::ints x.dH)[2+k]? =_;rw[show 2+k=k+1+1 by omega,qV,qV]
 .rw[H8 (by rw[Zx,hx.1];omega)]
theorem Zze {l:List bm} (h:l[j]? =some e):((bY l).drop (j*4)).take 2=[.i e.slot,.i e.gen]:=by
 have:=D1 h;have h2:=congrArg (List.take 2) this;rw[BH]at h2;exact h2
theorem ZxX (u:Int) (l:List bB) (h1:es[k]? =some e) (h2:ns[k]? =some w):ju u l (es.drop k) (ns.drop k)=bif j4 u l e w then ju u l (es.drop (k+1)) (ns.drop (k+1))else false:=by
 have⟨a1,a2⟩:=eB.1 h1;have⟨b1,b2⟩:=eB.1 h2;rw[jd a1,jd b1,a2,b2];rfl
theorem Zq7 (k:Nat) {s:St} : ∀ {ds:ah} {xs:List dJ},jo s ds xs->jo (Z2 k s) ds xs
 |_,[],h=>h
 |_,_::_,⟨z,p,t,hz,h1,h2,h3⟩=>⟨z,p,t,hz,h1,h2.dU k,Zq7 k h3⟩
theorem Zwo (l:List bB) (s:bB):oO (l++[s])=oO l+(bif s.live then 1 else 0):=by
 grind[oO]
theorem Zsw (l:List bB):oO l<=l.length:=List.length_filter_le _ _
theorem ZqV (n:Nat) (img:aj) (x:cy) (pc:ai) (st:St) (hl:img.length<1000000) (hc:Sl st pc (ints x.aJ)) (cO:x.aJ.length<1000) (hn:80000<=n):
  Ok (vn st (vz img x)) (run Bd n 211 [.str img,.agg (dq x pc)] st):=by
 obtain _|n:=n;omega;rw[Ze,h.afI];unfold SH MA bu az JE qh ZF cW Q7 bZ oq Zn il Zhl N_ Gx vq vo je rr Zm pJ pA ZP BV eQ gA Lb Z7 ep sJ BS ye Li
 try dsimp only
 rw[bT,dY];have Fb:=λs1 (hp:aA st s1)=>RP n x pc s1 (hc.mono hp) cO
 have pY:=λim (hi:im.length<1000000) (hx:pB x) s1=>ZqI n im x pc s1 hi hx AC
 have dW:=λ(l:List bB) z p s1 hz hs gD nN hr hf=>Zsj n l z p x pc s1 hz hs gD nN hr hf AC
 unfold dq at Fb pY dW⊢;simp only[av,aV,aq,ZJ];have⟨R,hR⟩: ∃R,vz img x=R:=⟨_,rfl⟩;rw[hR];have bad: ∀s',aA st s'->R=none->Ok (vn st R) ((cc st.length [.agg [.i 0,.i 0,.i 0,.slice 0 none 0,.slice 0 none 0,.slice 0 none 0],.slice 0 none 0,.bool false]:M ah) s'):=λs' hp hn=>by
  rw[hn,Zp];exact .mk ⟨_,Zq hp,rfl⟩
 unfold vz at hR;refine Ok.cv (Fb st (.refl st)) λs1 aD=>?_
 simp only[au,aq];rw[Za];cases hS:ZT x with
 |false=>
  rw[hS,bp,ae]at hR;rw[bp,ae];simp only[au,aq];rw[ae];exact bad s1 aD hR.symm
 |true=>
 have hx:=(Ai x).1 hS;have⟨g1,g2,g3,g4,g5,g6⟩:=ZR hx.g;have vQ:=hx.f0;have C0:=hx.f1;rw[hS,bw,af]at hR;have ediv:ar ((img.length:Int).tdiv 64)=((img.length/64:Nat):Int):=by
  rw[show(img.length:Int).tdiv 64=((img.length/64:Nat):Int)from rfl];exact Zc
 rw[bw,af,ediv];simp only[au,aq];by_cases hZ:x.blocks>((img.length/64:Nat):Int)
 .rw[aX hZ]at hR
  rw[aX hZ];grind
 rw[aZ hZ]at hR;rw[aZ hZ];have⟨m,hm⟩: ∃m:Nat,x.blocks=(m:Int):=Fd
 have j8:x.blocks.toNat=m:=AC
 have ajL:ar (64*x.blocks)=((64*m:Nat):Int):=by rw[hm,Zc];omega
 rw[j8]at hR;rw[ajL,Zb (by rw[aY,bn,bn];omega)];simp only[br];have⟨im,EN⟩: ∃im,img.take (64*m)=im:=⟨_,rfl⟩;have Yo:im.length<1000000:=by rw[<-EN,cR];omega
 rw[EN]at hR⊢;refine Ok.call (pY im Yo hx s1) ?_;rintro o ⟨s2,aU,ho⟩;have iX:=aD.trans aU;cases G9:rH im x with
 |none=>
  rw[G9]at ho hR;simp only at ho;subst ho;refine⟨_,s2,rfl,?_⟩;simp only[Zf 3 0 none _ (.inr rfl),Zf 1 0 none _ (.inr rfl),au,aq];rw[bp,ae];exact bad s2 iX hR.symm
 |some q=>
 have⟨l,pg⟩:=q;rw[G9]at ho hR;obtain⟨px1,px2,rfl,Bj,Fk⟩:=ho;simp only at hR;have⟨l1,l2,l3,l4⟩:=Vl hx G9;refine⟨_,s2,rfl,?_⟩;simp only[aV,au,aq];rw[bw,af];refine Ok.call (dW l 3 px1 s2 (.inl rfl) Bj l2 l3 (λs hs eX=>ZkU (l1 s hs) eX) AC) ?_;rintro o ⟨s3,cz,ho⟩;have uO:=iX.trans cz;have nP:=λs3=>Zsr n im x.dir s3 Yo AC
 cases hFr:w4 l x with
 |none=>
  rw[hFr]at ho hR;simp only at ho;subst ho;refine⟨_,s3,rfl,?_⟩;simp only[Zf 1 0 none _ (.inr rfl),au,aq];refine Ok.call (nP s3) ?_;rintro o ⟨s4,fe,ho⟩;cases G6:wo im x.dir with
  |none=>
   rw[G6]at ho;simp only at ho;subst ho;refine⟨_,s4,rfl,?_⟩;simp only[Zf 14 0 none _ (.inr rfl),Zf 1 0 none _ (.inr rfl),au,aq];rw[Za,bp,ae];simp only[au,aq];rw[ae];exact bad s4 (uO.trans fe) hR.symm
  |some q=>
   have⟨qs,bs⟩:=q;rw[G6]at ho;obtain⟨z,p,z2,q,rfl,hz,gp,_⟩:=ho;refine⟨_,s4,rfl,?_⟩;simp only[Zf 14 z p _ hz,Zf 1 z2 q _ gp,au,aq];rw[Za,bp,ae];simp only[au,aq];rw[ae];exact bad s4 (uO.trans fe) hR.symm
 |some fr=>
 rw[hFr]at ho hR;obtain⟨zf,pf,rfl,hzf,nl⟩:=ho;simp only at hR;refine⟨_,s3,rfl,?_⟩;simp only[Zf 1 zf pf _ hzf,au,aq];refine Ok.call (nP s3) ?_;rintro o ⟨s4,fe,ho⟩;have EZ:=uO.trans fe;cases G6:wo im x.dir with
 |none=>
  rw[G6]at ho hR;simp only at ho;subst ho;refine⟨_,s4,rfl,?_⟩;simp only[Zf 14 0 none _ (.inr rfl),Zf 1 0 none _ (.inr rfl),au,aq];rw[Za,bw,af];simp only[au,aq];rw[bp,ae];exact bad s4 EZ hR.symm
 |some q=>
 have⟨qs,bs⟩:=q;rw[G6]at ho hR;obtain⟨z6,px6,z7,px7,rfl,hz6,hz7,hq6,hq7,vL,aly,ak9⟩:=ho;simp only at hR;refine⟨_,s4,rfl,?_⟩;simp only[Zf 14 z6 px6 _ hz6,Zf 1 z7 px7 _ hz7,au,aq];rw[Za,bw,af];simp only[au,aq];rw[af];have hL:=Bj.mono (cz.trans fe);have hPg:=Fk.mono (cz.trans fe);have hFs:=nl.mono fe;have Oq: ∀s',aA s4 s'->R=none->Ok (vn st R) ((cc st.length [.agg [.i 0,.i 0,.i 0,.slice 0 none 0,.slice 0 none 0,.slice 0 none 0],.slice 0 none 0,.bool false]:M ah) s'):=λs' hp hn=>bad s' (EZ.trans hp) hn
 rw[Zz];have⟨s5,hs5⟩: ∃s5,s4++[some (⟨false,[]⟩:bO)]=s5:=⟨_,rfl⟩;have kb:aA s4 s5:=by rw[<-hs5];exact .new _ _
 rw[hs5];have ai0:bg s4 s5 (some (s4.length,0)) []:=⟨kb,Fd⟩;have r2: ∀K:ah->M ah,dx px2 (pg.length*1) K s5=K (ints pg) s5:=λK=>by
  have:=iC (hPg.mono kb) K;rwa [Zx,<-cS pg.length]at this
 rw[r2];have⟨pa1,s6,mM,rX,yS,uI⟩:=ai0.uw (β:=ah) (sz:=1) (n:=0) (m:=pg.length) (lim:=8796093022208) (ds:=ints pg) AC rfl (by rw[Zx,cS]) AC;rw[uI];rw[iG]at mM;have r7: ∀K:ah->M ah,dx px7 (bs.length*1) K s6=K (ints bs) s6:=λK=>by
  have:=iC (hq7.mono mM.1) K;rwa [Zx,<-cS bs.length]at this
 rw[r7];have⟨pa,s7,KQ,hf7,hb7,he7⟩:=mM.uw (β:=ah) (sz:=1) (n:=0+pg.length) (m:=bs.length) (lim:=8796093022208) (ds:=ints bs) AC (by rw[Zx];omega) (by rw[Zx,cS]) AC;rw[he7];rw[<-NL]at KQ;have xc:(pg++bs).length=0+pg.length+bs.length:=by rw[bz];omega
 rw[<-xc];have⟨Cx,ab3⟩: ∃Cx,pg++bs=Cx:=⟨_,rfl⟩;have ak7:Cx.length<=300:=by rw[<-ab3,bz];omega
 rw[ab3]at KQ hR⊢;refine Ok.join λaW kW=>?_
 have Ft: ∀(t:St) (j:Nat) (s:bB),Sl t px1 (ca l)->l[j]? =some s->∃i o,px1=some (i,o)/\(∀K:DV->M ah,bD i (j*3+o) K t=K (.bool s.live) t)/\(∀K:DV->M ah,bD i (j*3+o+1) K t=K (.i s.gen) t)/\∀K:ah->M ah,bX i (j*3+o) 3 K t=K (eV s) t:=λt j s ht hj=>by
  have uL:=(eB.1 hj).1;obtain⟨i,o,rfl⟩:=ht.cF (by rw[ZB];omega);refine⟨i,o,rfl,λK=>?_,λK=>?_,λK=>?_⟩
  .have:=ht.get (β:=ah) (by rw[IW hj 0];rfl) K
   exact this
  .have:=ht.get (β:=ah) (by rw[IW hj 1];rfl) K
   rw[show j*3+o+1=j*3+1+o by omega];exact this
  .rw[ht.yN (k:=j*3) (n:=3) (by rw[ZB];omega),Va hj]
 refine Zj _ (λc y t=>∃(i z94 QC:Nat) (xI:ai),y=[.agg [.i x.blocks,.i x.dc,.i x.g,.slice z94 none 0,.slice QC xI i,.slice 1 pf fr.length],.i ((oO (l.take i):Nat):Int),.i (i:Int)]/\(QC=1\/xI=none)/\i<=l.length/\l.length-i<=c/\bg s4 t xI (ints ((l.take i).map (·.gen)))/\bg s4 t pa (ints Cx)/\(∀b∈aN xI,b∉aN pa)) ?_ l.length n _ _ ⟨0,0,0,none,by rw[hm];rfl,.inr rfl,cB _,AC,.nil KQ.1,KQ,λb hb=>by cases hb⟩ AC;rintro c y t ⟨i,z94,QC,xI,rfl,ajU,hi,OZ,Bf,mN,O1⟩ Du acR;rw[dY];simp only[av,Zf 2 z94 none _ (.inr rfl),Zf 1 QC xI _ ajU,aV,aq];by_cases aw:i<l.length
 .have di:l[i]? =some l[i]:=cu aw
  have fM:l.take (i+1)=l.take i++[l[i]]:=lV aw;generalize l[i]=s at di fM;have⟨pi,po,e1,Bm,ld1,_⟩:=Ft t i s (hL.mono mN.1) di;have jx:(ints ((l.take i).map (·.gen))).length=i*1:=by rw[Zx,lB,cR];omega
  rw[aX,e1,bc,Zb (Zi aw)];simp only[br];rw[ld1];simp only[bj];have iA:aA t (t++[some ⟨false,[.i s.gen]⟩]):= .new _ _;rw[Zz,Z9 (f:=false) (all:=[.i s.gen]) Do Do,dE,dF Do];have⟨pg6,u6,YD,aia,ahT,ah7⟩:=(Bf.mono iA).uw (β:=ah) (sz:=1) (n:=i) (m:=1) (lim:=8796093022208) (ds:=[.i s.gen]) AC jx rfl AC;rw[ah7];have aiO:bg s4 u6 pa (ints Cx):=(mN.mono iA).yM aia (λb hb dh=>O1 b dh hb) YD.1;have⟨pi2,po2,e2,aj0,_,_⟩:=Ft u6 i s (hL.mono YD.1) di;rw[e1]at e2;cases e2;rw[bc,Zb (Zi aw),aj0];simp only[sH];have Hp:=Zsw (l.take i);rw[cR]at Hp;have eF: ∀lv:Int,lv=((oO (l.take (i+1)):Nat):Int)->Ok (vn st R) (Du [.agg [.i x.blocks,.i x.dc,.i x.g,.slice 2 none 0,.slice 1 pg6 (i+1),.slice 1 pf fr.length],.i lv,.i (ar ((i:Int)+1))] u6):=λlv eX=>by
   rw[Zc,eX];have halt:=mN.p9;refine acR (l.length-(i+1)) _ _ AC ⟨i+1,2,1,pg6,rfl,.inl rfl,AC,aM _,?_,aiO,λb hb dh=>?_⟩
   .rw[fM,fB,show(List.map (·.gen) [s])=[s.gen]from rfl,Nn]
    exact YD
   .rcases ahT b hb with h1|h1
    .exact O1 b h1 dh
    .have:=halt b dh
     have:=iA.len;omega
  have ES:oO (l.take (i+1))=oO (l.take i)+(bif s.live then 1 else 0):=by rw[fM,Zwo]
  rw[Za];cases eX:s.live with
  |true=>
   rw[eX,ae]at ES;rw[ae];simp only[av,aq];exact eF _ (by rw[Zc,ES];rfl)
  |false=>
   rw[eX,af,gQ]at ES;rw[af];simp only[av,aq];exact eF _ (by rw[ES];rfl)
 rw[aZ,kW];rw[dF AC]at Bf⊢;have j6:i=l.length:=AC
 subst j6;clear kW aW Du acR;show Ok (vn st R) (bh [DV.agg _,DV.int .i64 _] _ t);rw[dY];simp only[av,aV,Zf 2 2 none _ (.inr rfl),aq];refine Ok.join λbA C8=>?_
 have Hp:=Zsw l;have⟨gs,yY⟩: ∃gs,l.map (·.gen)=gs:=⟨_,rfl⟩;have aim:gs.length=l.length:=by rw[<-yY,lB]
 rw[yY]at Bf hR;rw[<-aim];have ajc:aA s4 t:=mN.1;refine Zj _ (λc y u=>∃(i za zb zc zh:Nat) (pa ph:ai) (all:ak) (hs:List dJ) (hd:ah) (lv:Int),y=[.agg (zz za zb zc),.slice 1 pa all.length,.agg [.i x.blocks,.i x.dc,.i x.g,.slice zh ph hs.length,.slice 1 xI gs.length,.slice 1 pf fr.length],.i lv,.i (i:Int)]/\(zh=2\/ph=none)/\i<=qs.length/\qs.length-i<=c/\bg s4 u pa (ints all)/\bg s4 u ph hd/\hd.length=hs.length*2/\rh u (aN pa++aN ph) hd hs/\bg s4 u xI (ints gs)/\(∀b∈aN pa,b∉aN ph)/\(∀b∈aN xI,b∉aN pa/\b∉aN ph)/\iP im x.used l qs [] Cx (oO l)=iP im x.used l (qs.drop i) hs all lv/\hs.length=i/\all.length<=300+4096*i/\(-4096*(i:Int)<=lv/\lv<=1792)) ?_ qs.length n _ _ ⟨0,0,0,0,2,pa,none,Cx,[],[],(oO l:Int),rfl,.inr rfl,cB _,AC,mN,.nil ajc,rfl,rfl,Bf,λb hb dh=>(by cases dh),λb hb=>⟨O1 b hb,λdh=>by cases dh⟩,by rw[dE],rfl,AC,AC⟩ AC;clear O1 mN Bf KQ he7;rintro c2 y2 u ⟨i,za,zb,zc,zh,pa,ph,all,hs,hd,lv,rfl,hzh,hi,OZ,mN,YG,uK,hho,Bf,uH,ji,Bi,hhi,ak6,eX⟩ dC kf;rw[dY];unfold zz;simp only[av,Zf 2 za none _ (.inr rfl),Zf 1 zb none _ (.inr rfl),Zf 1 zc none _ (.inr rfl),aV,aq];rw[dY];simp only[av,Zf 2 zh ph _ hzh,aV,aq];by_cases aw:i<qs.length
 .have di:qs[i]? =some qs[i]:=cu aw
  have gj:qs.drop i=qs[i]::qs.drop (i+1):=jd aw;have PA:=vL _ (ku aw);generalize qs[i]=q at di gj PA;have hQu:=hq6.mono mN.1;obtain⟨i7,o7,rfl⟩:=hQu.cF (by rw[Jy vL];omega);rw[gj]at Bi;rw[aX];refine Ok.join λiN aiu=>?_
  rw[bc,Zb (Zi aw)];simp only[br];rw[show i*14+o7+2=i*14+2+o7 by omega,hQu.yN (k:=i*14+2) (n:=12) (by rw[Jy vL];omega),ZwC vL di,bK (by rw[Zx];exact PA.1)];refine Ok.call (Zph n im q.dH u Yo PA.1 AC) ?_;rintro o ⟨u1,KV,ho⟩;have Pm:=mN.mono KV;have eF:iP im x.used l (q::qs.drop (i+1)) hs all lv=(match vB im q.dH with
   |none=>none
   |some (es,ns)=>bif ju x.used l es ns then iP im x.used l (qs.drop (i+1)) (hs++[⟨q.name,Z8 es⟩]) (all++ns) (lv-es.length)else none):=rfl
  have fail: ∀u',aA s4 u'->iP im x.used l (q::qs.drop (i+1)) hs all lv=none->Ok (vn st R) ((cc st.length [.agg [.i 0,.i 0,.i 0,.slice 0 none 0,.slice 0 none 0,.slice 0 none 0],.slice 0 none 0,.bool false]:M ah) u'):=λu' hp hf=>Oq u' hp (by rw[Bi,hf]at hR;exact hR.symm)
  cases XC:vB im q.dH with
  |none=>
   rw[XC]at ho eF;simp only at ho;subst ho;refine⟨_,u1,rfl,?_⟩;simp only[Zf 4 0 none _ (.inr rfl),Zf 1 0 none _ (.inr rfl),au,aq];rw[bp,ae];exact fail u1 Pm.1 eF
  |some qq=>
  have⟨es,ns⟩:=qq;rw[XC]at ho eF;obtain⟨p68,p69,rfl,hE,hN,hNn,hEn⟩:=ho;simp only at eF;refine⟨_,u1,rfl,?_⟩;simp only[aV,au,aq];rw[bw,af];have⟨fo1,fo2,fo3⟩:=Zwp XC PA.1;have hL1:=hL.mono Pm.1;refine Ok.join λiO acx=>?_
  refine Zj _ (λc y v=>∃(k za zb zc:Nat),y=[.agg (zz za zb zc),.i (k:Int)]/\k<=es.length/\es.length-k<=c/\v=u1/\ju x.used l es ns=ju x.used l (es.drop k) (ns.drop k)) ?_ es.length n _ _ ⟨0,2,1,1,rfl,cB _,AC,rfl,by rw[dE,dE]⟩ AC;rintro c3 y3 v ⟨k,za,zb,zc,rfl,hk,j5,rfl,pW⟩ wq PC;rw[dY];unfold zz;simp only[av,Zf 2 za none _ (.inr rfl),Zf 1 zb none _ (.inr rfl),Zf 1 zc none _ (.inr rfl),aq];by_cases gm:k<es.length
  .have uJ:es[k]? =some es[k]:=cu gm
   have hem:=fo1 _ (ku gm);generalize es[k]=e at uJ hem;have rY:ns[k]? =some (ns.getD k 0):=by
    rw[cu AC,ef,cu AC];rfl
   have acr:(ints ns)[k]? =some (.i (ns.getD k 0)):=Al;generalize ns.getD k 0=w at rY acr;have EK:=ZxX x.used l uJ rY;rw[EK]at pW;have⟨i10,o10,e68⟩:=hE.cF (by rw[Zu];omega);have⟨i12,o12,e69⟩:=hN.cF (by rw[Zx];omega);rw[e68]at hE;rw[e69]at hN;rw[aX,e68,bc,Zb (Zi gm)];simp only[br];rw[hE.yN (k:=k*4) (n:=2) (by rw[Zu];omega),Zze uJ];simp only[av,aq];rw[Za];have LV:j4 x.used l e w=false->Ok (vn st R) ((cc st.length [.agg [.i 0,.i 0,.i 0,.slice 0 none 0,.slice 0 none 0,.slice 0 none 0],.slice 0 none 0,.bool false]:M ah) v):=λhb=>by
    rw[hb,af]at pW;rw[pW,af]at eF;exact fail v Pm.1 eF
   by_cases HI:e.slot>=x.used
   .rw[aX HI]
    simp only[au,aq];rw[ae];exact LV (by unfold j4;rw[aS HI];rfl)
   .have⟨sl,dI⟩: ∃sl:Nat,e.slot=(sl:Int):=⟨e.slot.toNat,AC⟩
    have ajy:sl<l.length:=AC
    have Yi:l[sl]? =some l[sl]:=cu ajy;generalize l[sl]=s at Yi;have⟨pi,po,e1,_,_,ldc⟩:=Ft v sl s hL1 Yi;have pV:j4 x.used l e w=((s.live==true)&&((s.gen==e.gen)&&((s.block==w)&&true))):=by
     unfold j4;rw[bM HI,dI,br,Yi];rfl
    rw[aZ HI,e1,bc,dI,Zb (Zi)];simp only[br];rw[ldc];unfold eV;simp only[au,av,aq];rw[e69,bc,Zb (Zi (AC:k<ns.length)),hN.dO acr];simp only[bj,au,aq];rw[<-pV];cases ach:j4 x.used l e w with
    |false=>
     rw[bp,ae];exact LV ach
    |true=>
     rw[ach,ae]at pW;rw[bw,af,Zc];exact PC (es.length-(k+1)) _ _ AC ⟨k+1,2,1,1,rfl,AC,aM _,rfl,pW⟩
  rw[aZ,acx];rw[ly AC]at pW;have aib:ju x.used l es ns=true:=pW;rw[aib,ae]at eF;clear PC wq acx iO pW;show Ok (vn st R) (bh [DV.agg _] _ v);rw[dY];simp only[av,aV,aq];have r9: ∀K:ah->M ah,dx p69 (ns.length*1) K v=K (ints ns) v:=λK=>by
   have:=iC hN K;rwa [Zx,<-cS ns.length]at this
  rw[r9];have ai5:=mN.p9;have YM:=YG.p9;have acN:=Bf.p9;have huv:=KV.len;have⟨LD,u2,dj,nj,dh,tt⟩:=Pm.uw (β:=ah) (sz:=1) (n:=all.length) (m:=ns.length) (lim:=8796093022208) (ds:=ints ns) AC (by rw[Zx,cS]) (by rw[Zx,cS]) AC;rw[tt];have alG:=nj.1;have hQ2:=hq6.mono dj.1;have xm:(uW qs)[i*14]? =some (.str q.name):=by
   have:=N3 vL di 0 AC;rw[gQ]at this;rw[this];rfl
  rw[bc,Zb (Zi aw),hQ2.get xm];simp only[xX];have hE2:Sl u2 p68 (bY es):=hE.fx nj (AF λb hb dh=>by have:=hEn b hb;have:=ai5 b dh;omega);refine Ok.Ow (ZoQ n es 4 p68 u2 (.inl rfl) hE2 AC AC) ?_;rintro _ ⟨zJ,u3,rfl,Hy,ED,hSn⟩;refine⟨_,u3,rfl,Hy,?_⟩;simp only[aV,aq];have iA:aA u3 (u3++[some ⟨false,me ⟨q.name,Z8 es⟩ 4 zJ⟩]):= .new _ _;have hhz:([.str q.name,.slice 4 zJ (Z8 es).length]:ah)=me ⟨q.name,Z8 es⟩ 4 zJ:=rfl;rw[hhz,Zz,Z9 (f:=false) (all:=me ⟨q.name,Z8 es⟩ 4 zJ) Do (by show 0+2<=2;omega),dE,dF (show(me _ _ _).length<=2 from aM _)];have acP:aA s4 u2:=dj.1;have aiR:bg s4 (u3++[some ⟨false,me ⟨q.name,Z8 es⟩ 4 zJ⟩]) ph hd:=(((YG.mono KV).yM nj (λb hb dh=>uH b dh hb) acP).mono Hy).mono iA;have aiQ:bg s4 (u3++[some ⟨false,me ⟨q.name,Z8 es⟩ 4 zJ⟩]) xI (ints gs):=(((Bf.mono KV).yM nj (λb hb dh=>(ji b hb).1 dh) acP).mono Hy).mono iA;have⟨ph5,u5,oJ,nk,EE,CY⟩:=aiR.uw (β:=ah) (sz:=2) (n:=hs.length) (m:=1) (lim:=1759218604441) (ds:=me ⟨q.name,Z8 es⟩ 4 zJ) AC uK rfl AC;rw[CY,aiu];have alD:=Hy.len;have alE:=iA.len;have acM:=dj.p9;have hSl:=ED.p9;have hFL:Fx (aN pa++aN ph) u u5:=(Fx.pre _ KV).trans ((nj.mono λb hb=>List.mem_append_left _ hb).trans ((Fx.pre _ (Hy.trans iA)).trans (nk.mono λb hb=>Ma _ hb)));have ace: ∀b∈aN LD,b∉aN ph:=λb hb oD=>by
   rcases dh b hb with h1|h1
   .exact uH b h1 oD
   .have:=YM b oD;omega
  have aiN:bg s4 u5 LD (ints all++ints ns):=((dj.mono Hy).mono iA).yM nk ace oJ.1;have aio:=hho.fx (L':=aN LD++aN ph5) hFL λb hb=>by
   rcases gI.1 hb with hb|hb
   .rcases dh b hb with h1|h1
    .exact .inl (List.mem_append_left _ h1)
    omega
   .rcases EE b hb with h1|h1
    .exact .inl (Ma _ h1)
    omega
  have G8:Sl u5 zJ (bY (Z8 es)):=(ED.mono iA).fx nk (AF λb hb oD=>by have:=hSn b hb;have:=YM b oD;omega);have aip:=aio.push (x:=⟨q.name,Z8 es⟩) (z:=4) (p:=zJ) (.inl rfl) G8 (AF λb hb oD=>by
   have h1:=hSn b hb;have h2:=hSl b hb;rcases gI.1 oD with oD|oD
   .have:=acM b oD;omega
   .rcases EE b oD with h3|h3
    .have:=YM b h3;omega
    .omega)
  show Ok (vn st R) (bh [DV.agg _,DV.slice 1 LD _,DV.agg _,DV.int .i64 _] _ u5);rw[dY];simp only[av,aV,aq];rw[dY];simp only[av,aV,aq];rw[Zc (x:=lv-(es.length:Int)),Zc];refine kf (qs.length-(i+1)) _ _ AC ⟨i+1,2,1,1,2,LD,ph5,all++ns,hs++[⟨q.name,Z8 es⟩],hd++me ⟨q.name,Z8 es⟩ 4 zJ,lv-es.length,?_,.inl rfl,AC,aM _,by rw[NL];exact aiN,oJ,?_,aip,aiQ.yM nk (λb hb oD=>(ji b hb).2 oD) oJ.1,λb hb oD=>?_,λb hb=>⟨λoD=>?_,λoD=>?_⟩,?_,?_,?_,AC⟩
  .rw[bz,bz,iS]
   rfl
  .rw[bz,bz,iS,uK]
   show _+2=_;omega
  .rcases EE b oD with h1|h1
   .exact ace b hb h1
   .have:=acM b hb;omega
  .rcases dh b oD with h1|h1
   .exact(ji b hb).1 h1
   .have:=acN b hb;omega
  .rcases EE b oD with h1|h1
   .exact(ji b hb).2 h1
   .have:=acN b hb;omega
  .rw[Bi,eF]
  .rw[bz,iS,hhi]
  .rw[bz];omega
 rw[aZ,C8];rw[ly AC]at Bi;have ajN:iP im x.used l qs [] Cx (oO l)=some (hs,all,lv):=Bi;rw[ajN]at hR;simp only at hR;clear kf dC C8 bA Bi;show Ok (vn st R) (bh [DV.agg _,DV.slice 1 pa _,DV.agg _,DV.int .i64 _] _ u);rw[dY];simp only[av,aV,aq];rw[dY];simp only[av,aV,aq];rw[Zz];have⟨u9,Y4⟩: ∃u9,u++[some (⟨false,[.i 0,.i 1]⟩:bO)]=u9:=⟨_,rfl⟩;have YP:aA u u9:=by rw[<-Y4];exact .new _ _
 have hr9:Sl u9 (some (u.length,0)) (ints [0,1]):=⟨false,[.i 0,.i 1],by rw[<-Y4];simp,by simp[ints],by simp[ints]⟩;rw[Y4];refine Ok.join λcq C9=>?_
 refine Zj _ (λc y v=>∃(k za zb zc zr:Nat) (pr:ai) (r:ak),y=[.agg (zz za zb zc),.slice zr pr r.length,.i (k:Int)]/\(zr=1\/pr=none)/\k<=all.length/\all.length-k<=c/\aA u9 v/\Sl v pr (ints r)/\kN r/\r.length<=k+2/\qA x.blocks all [0,1]=qA x.blocks (all.drop k) r) ?_ all.length n _ _ ⟨0,2,1,1,1,some (u.length,0),[0,1],rfl,.inl rfl,cB _,AC,.refl _,hr9,(by unfold kN;simp),aM _,by rw[dE]⟩ AC;rintro c4 y4 v ⟨k,za2,zb2,zc2,zr,pr,r,rfl,Lj,hk,j5,v8,Fe,K3,De,Hz⟩ aQ ajk;rw[dY];unfold zz;simp only[av,Zf 2 za2 none _ (.inr rfl),Zf 1 zb2 none _ (.inr rfl),Zf 1 zc2 none _ (.inr rfl),Zf 1 zr pr _ Lj,aq];have KW:aA s4 v:=mN.1.trans (YP.trans v8);have CQ:=mN.sl.mono (YP.trans v8);by_cases gm:k<all.length
 .have gj:=JC gm
  have⟨w,hw⟩: ∃w,all.getD k 0=w:=⟨_,rfl⟩;rw[hw]at gj;have rY:(ints all)[k]? =some (.i w):=by rw[<-hw];exact Al gm
  have⟨i3,o3,e3⟩:=CQ.cF (by rw[Zx];omega);rw[e3]at CQ;rw[gj]at Hz;have eF:qA x.blocks (w::all.drop (k+1)) r=bif decide (w<2)then none else(bif decide (w∈r)then none else qA x.blocks (all.drop (k+1)) (zn x.blocks r w)):=rfl;have fail:qA x.blocks (w::all.drop (k+1)) r=none->Ok (vn st R) ((cc st.length [.agg [.i 0,.i 0,.i 0,.slice 0 none 0,.slice 0 none 0,.slice 0 none 0],.slice 0 none 0,.bool false]:M ah) v):=λhf=>Oq v KW (by rw[Hz,hf]at hR;exact hR.symm)
  rw[aX,e3,bc,Zb (Zi gm)];simp only[br];rw[CQ.dO rY];simp only[bj];rw[Za];by_cases fY:w<2
  .rw[aX fY]at eF
   rw[aX fY];simp only[au,aq];rw[ae];exact fail eF
  .rw[aZ fY]at eF
   rw[aZ fY,bc,Zb (Zi gm),CQ.dO rY];simp only[bj];refine Ok.call (BY n 1 r w pr v (.inl rfl) Fe) ?_;rintro _ rfl;refine⟨_,v,rfl,?_⟩;simp only[au,aq];cases hwr:decide (w∈r)with
   |true=>
    rw[hwr,ae]at eF;rw[ae];exact fail eF
   |false=>
    rw[hwr,af]at eF;rw[af,bc,Zb (Zi gm),CQ.dO rY];simp only[bj];refine Ok.call (Tl n r 1 pr x.blocks w v (.inl rfl) Fe K3) ?_;rintro _ ⟨p2,r2,v2,rfl,aje,ajs,iB,fE⟩;refine⟨_,v2,rfl,?_⟩;simp only[aV,aq];have⟨c1,c2⟩:=N1 (m:=x.blocks) (a:=w) K3;have aji:r2=zn x.blocks r w:=Ga iB c1 λb=>by rw[fE,c2]
    have ajj:r2.length<=(w::r).length:=yp iB.nodup λb hb=>by
     rcases(fE b).1 hb with h1|h1
     .exact xT _ h1
     .rw[h1.1];exact tV
    rw[cQ]at ajj;rw[Zc];exact ajk (all.length-(k+1)) _ _ AC ⟨k+1,2,1,1,1,p2,r2,rfl,.inl rfl,AC,aM _,v8.trans aje,ajs,iB,AC,by rw[Hz,eF,aji]⟩
 rw[aZ,C9];rw[ly AC]at Hz;have ajl:qA x.blocks all [0,1]=some r:=Hz;rw[ajl]at hR;simp only at hR;show Ok (vn st R) (bh [DV.agg _,DV.slice 1 pr _] _ v);rw[dY];simp only[av,aV,aq];rw[Za,Zc (x:=(all.length:Int)+2)];have ajn:((r.length:Int)==(all.length:Int)+2)=decide (r.length=all.length+2):=nE r.length (all.length+2) _;cases acA:(lv==0)with
 |false=>
  rw[acA,af]at hR;rw[bp,ae];simp only[au,aq];rw[ae];exact Oq v KW hR.symm
 |true=>
  rw[acA,ae]at hR;rw[bw,af,ajn];simp only[au,aq];cases jM:decide (r.length=all.length+2)with
  |false=>
   rw[jM,af]at hR;rw[bp,ae];exact Oq v KW hR.symm
  |true=>
   rw[jM,ae]at hR;rw[bw,af,Zp];refine .mk ⟨_,Zq (EZ.trans KW),?_⟩;rw[<-hR];have YQ:=YP.trans v8;have hhh:=hho.aK.mono YQ;refine⟨2,ph,xI,pf,pr,rfl,.inl rfl,⟨⟨hd,(YG.sl.mono YQ).dU _,?_⟩,(Bf.sl.mono YQ).dU _,(hFs.mono KW).dU _⟩,Fe.dU _⟩;exact Zq7 _ hhh
end Go.Gv.F
