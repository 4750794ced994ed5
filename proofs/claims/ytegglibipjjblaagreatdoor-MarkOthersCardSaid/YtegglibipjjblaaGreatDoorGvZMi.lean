/- Numbers and blocks, read (the document's). -/
import Derived.Test.YtegglibipjjblaaGreatDoorGvBMk
import Derived.Test.YtegglibipjjblaaGreatDoorGvZMg
import Derived.Test.YtegglibipjjblaaGreatDoorGvZMf
set_option linter.all false
namespace Go.Gv.F
open Go.Gv
variable {β:Type}
variable {Bd:Zh} [h:HA Bd]
theorem Zny (n:Nat) (s:aj) (st:St) (hl:s.length<=8) (hn:s.length+3<=n):Ok (λo=>o=(.val [.int .u64 ((eZ s:Nat):Int)],st)) (run Bd n 310 [.str s] st):=by
 obtain⟨n,rfl⟩: ∃k,n=k+1:=⟨n-1,by omega⟩;rw[Ze,h.ac0];unfold OC kK BZ D8 mY ZI;simp only[bO,aq];refine Ok.join λaA qd=>?_
 have key: ∀i,i<=s.length->eZ (s.drop i)<256^(s.length-i):=λi hi=>by
  have:=Ef (s.drop i);rwa [fb]at this
 refine Zj _ (λq y t=>∃i:Nat,y=[.int .u64 ((eZ (s.drop i):Nat):Int),.int .i64 ((i:Int)-1)]/\i<=s.length/\i<=q/\t=st) ?_ s.length n _ _ ⟨s.length,by rw[List.drop_length,Zc];rfl,aO _,aO _,rfl⟩ (by omega);rintro q y t ⟨i,rfl,hi,hq,rfl⟩ rec aQ;simp only[av,aq];by_cases h0:i=0
 .subst h0
  rw[aD (by omega),af,qd];simp only[av,aq,Zd];exact .mk rfl
 .rw[aw (show(i:Int)-1>=0 by omega),ae,Za,aw (show(i:Int)-1<8 by omega),ae]
  obtain⟨j,rfl⟩: ∃j,i=j+1:=⟨i-1,by omega⟩;have hj:j<s.length:=by omega
  rw[show((j+1:Nat):Int)-1=((j:Nat):Int) by omega,Zb (Zi hj)];simp only[av,aq];have hd:s.drop j=s[j]::s.drop (j+1):=iC hj;have ax:=key (j+1) (by omega);have hp:256^(s.length-(j+1))<=256^7:=mX (by decide) (by omega);have h7:(256:Nat)^7=72057594037927936:=by decide
  have hb:ZQ s (j:Int)=(s[j].toNat:Int):=by
   unfold ZQ;rw[br,dZ,cg hj];rfl
  have hsj:=s[j].toNat_lt;rw[hb,IntWalk.u64_in (((eZ (s.drop (j+1)):Nat):Int)*256) (by omega),IntWalk.u64_in (s[j].toNat:Int) (by omega),IntWalk.u64_in _ (by omega),Zc];refine aQ j _ _ (by omega) ⟨j,?_,by omega,aO _,rfl⟩;rw[hd];show _=[DV.int .u64 ((s[j].toNat+256*eZ (s.drop (j+1)):Nat):Int),_];rw[show((eZ (s.drop (j+1)):Nat):Int)*256+(s[j].toNat:Int)=((s[j].toNat+256*eZ (s.drop (j+1)):Nat):Int) by omega]
theorem zI (n:Nat) (s:aj) (st:St) (hl:s.length<=8) (hn:12<=n:=by omega):run Bd n 292 [.str s] st=some (.val [.int .i64 (ar ((eZ s:Nat):Int))],st):=by
 obtain⟨n,rfl⟩: ∃k,n=k+1:=⟨n-1,by omega⟩;rw[Ze,h.acN];unfold PX kK zV Ls Li;simp only[bO,aq];obtain⟨o,e,rfl⟩:=Zny n s st hl (by omega);rw[Zk e];rfl
variable {m top w:Int} {es:List bc} {l:List bw} {d i j k k' lim n t t' v:Nat} {s s' s0:St} {cs ds:ah} {b' img:aj} {ns pg r:ak} {T:al} {e:bc}
theorem BS (b:aj) {a:Nat} :ar ((eZ ((b.take (a+k)).drop a):Nat):Int)=cR b a k:=by
 simp[cR,rd,Dd]
theorem BQ {b:aj} {a:Nat} (hk:k<=8:=by omega):((b.take (a+k)).drop a).length<=8:=by
 rw[fb,cV];omega
theorem ZtN {l:aj} (p7:l.length=64) (h4:l.getD 4 0≠0):(iz ((l.getD 4 0).toNat:Nat) ((l.getD 5 0).toNat:Nat) (l.drop 8)==l)=sF l:=by
 rw[lg,sd];constructor
 .intro e
  have hk:0<(l.getD 4 0).toNat:=by
   rcases zi (l.getD 4 0).toNat with h|h
   .exact absurd (FV.1 (by grind)) h4
   .exact h
  have:=Ki hk (UInt8.toNat_lt _) (UInt8.toNat_lt (l.getD 5 0)) (b:=l.drop 8) (by rw[fb];omega);rw[e]at this;grind[gf]
 .intro hr
  have:gf l=some ((l.getD 4 0).toNat,(l.getD 5 0).toNat,l.drop 8):=by
   grind[gf]
  exact(tE this).1.symm
def yU (l:aj):ah:=match gf l with
 |none=>[.int .i64 0,.int .i64 0,.str [],.bool false]
 |some (k,t,b)=>[.int .i64 (k:Int),.int .i64 (t:Int),.str b,.bool true]
theorem Gg (n:Nat) (p:ai) (l:aj) (st:St) (hs:dE st p l) (hl:l.length=64) (hn:300<=n:=by omega):
  Ok (λo=>∃s',o=(.val (yU l),s')/\aC st s') (run Bd n 291 [.slice 1 p 64] st):=by
 obtain⟨n,rfl⟩: ∃k,n=k+1:=⟨n-1,by omega⟩;rw[Ze,h.acM];unfold Py cm az mq jD Lb oH;simp only[bd,aq];obtain⟨i,o,rfl⟩:=hs.cB (by omega);have g4:l[4]? =some (l.getD 4 0):=by rw[dZ,cg (by omega)];rfl
 have g5:l[5]? =some (l.getD 5 0):=by rw[dZ,cg (by omega)];rfl
 have hw: ∀c:UInt8,ar ((c.toNat:Nat):Int)=((c.toNat:Nat):Int):=λc=>by
  have:=c.toNat_lt;exact Zc
 have VL: ∀(K:DV->M ah) (t:St),dE t (some (i,o)) l->bF i (4+o) K t=K (.int .u8 (l.getD 4 0).toNat) t:=λK t ht=>ht.get g4 K
 have ld5: ∀(K:DV->M ah) (t:St),dE t (some (i,o)) l->bF i (5+o) K t=K (.int .u8 (l.getD 5 0).toNat) t:=λK t ht=>ht.get g5 K
 have r8: ∀(K:ah->M ah) (t:St),dE t (some (i,o)) l->dw (dj true (some (i,o)) 8) (64-8) K t=K (bZ (l.drop 8)) t:=λK t ht=>by
  have h8:=ht.dj (k:=8) (by omega);have:=jf (show Sl _ _ (bZ (l.drop 8))from h8) K;rwa [Zt,fb,hl]at this
 have rl: ∀(K:ah->M ah) (t:St),dE t (some (i,o)) l->dw (some (i,o)) 64 K t=K (bZ l) t:=λK t ht=>by
  have:=jf (show Sl _ _ (bZ l)from ht) K;rwa [Zt,hl]at this
 have bad:sF l=false->∀s',aC st s'->Ok (λo=>∃s',o=(.val (yU l),s')/\aC st s') ((ay [.int .i64 0,.int .i64 0,.str (bs []),.bool false]:M ah) s'):=λhr s' hp=>by
  rw[Zd];refine .mk ⟨s',?_,hp⟩;grind[yU,gf]
 rw[Za,show(!(((64:Nat):Int)==64))=false from rfl,af,aZ,Zb (by rfl),VL _ _ hs];simp only[aX,au,aq];rw[Za];by_cases h4:l.getD 4 0=0
 .rw[h4,show((((0:UInt8).toNat:Nat):Int)==0)=true from rfl,ae]
  simp only[au,aq];rw[ae];refine bad ?_ st (.refl _);grind[sF]
 .have h40:((((l.getD 4 0).toNat:Nat):Int)==0)=false:=dX.2 λe=>h4 (FV.1 (by grind))
  rw[h40,af,aZ,Zb (by rfl),VL _ _ hs];simp only[aX];rw[aZ,Zb (by rfl),ld5 _ _ hs];simp only[aX];rw[Zb (aw (by omega)),r8 _ _ hs,<-ly,nK,hw,hw];refine Ok.lT (zA n _ _ (l.drop 8) (by rw[fb];omega) st (by rw[fb];omega)) ?_;rintro _ ⟨s1,rfl,aH⟩;refine⟨_,s1,rfl,aH,?_⟩;have fH:=hs.mono aH;simp only[bO,aq];rw[rl _ _ fH,<-ly,nK,ZtN hl h4];simp only[au,aq];cases hr:sF l with
  |false=>
   rw[bm,ae];exact bad hr s1 aH
  |true=>
   rw[bp,af,aZ,Zb (show aP 4 64=true from rfl),VL _ _ fH];simp only[aX];rw[aZ,Zb (show aP 5 64=true from rfl),ld5 _ _ fH];simp only[aX];rw[Zb (aw (by omega)),r8 _ _ fH,<-ly,nK,hw,hw,Zd];refine .mk ⟨s1,?_,aH⟩;unfold yU gf;rw[hr];rfl
theorem GR {b:aj} (lD:0<k) (hk:k<256) (ht:t<256) (adX:0<k') (xf:k'<256) (vC:t'<256) (h:b.length<=56) (h':b'.length<=56:=by omega):iz k t b=iz k' t' b'↔k=k'/\t=t'/\jo b 56=jo b' 56:=by
 constructor
 .intro e
  have h1:=Ki lD hk ht h;rw[e,Ki adX xf vC h']at h1;grind
 .grind[iz,ou]
theorem Kg {b:aj} (h:b.length=56):jo b 56=b:=by
 simp_all[jo,kP]
theorem Kz {b:aj} (h:b.length=56) (hn:n<=56:=by omega):jo (b.take n) 56=b↔ZG (b.drop n)=true:=by
 have hl:(b.take n).length=n:=by rw[cV];omega
 have hd:(b.drop n).length=56-n:=by rw[fb];omega
 unfold jo;rw[hl];constructor
 .intro e
  have:b.drop n=kP (56-n):=by
   have h1:=oA n b;rw[<-e]at h1;grind
  rw[this];exact Zjt _
 .intro e
  have:=Qn e;rw[hd]at this;rw[<-this,oA]
theorem Zw4 (h:v<18446744073709551616):eJ (ar (v:Int))=v:=by
 grind[eJ,ar,IntKind.wrap_i64]
theorem zP {b:aj} {a:Nat} (hk:k<=8:=by omega) (h:a+k<=b.length:=by omega):dG (eJ (cR b a k)) k=(b.drop a).take k:=by
 unfold cR;have ax:=M7 b a k;have hp:256^k<=256^8:=mX (by decide) hk;have h8:(256:Nat)^8=18446744073709551616:=by decide
 rw[Zw4 (by omega)];unfold rd;have hl:((b.drop a).take k).length=k:=by rw[cV,fb];omega
 have:=RN ((b.drop a).take k);rwa [hl]at this
theorem Zpj (b:aj) (a m k:Nat):(b.drop a).take m++(b.drop (a+m)).take k=(b.drop a).take (m+k):=by
 rw[wc,kd]
theorem JZ {b:aj} {a:Nat} : ∀(n:Nat),a+2*n<=b.length->iT ((List.range n).map λj=>cR b (a+2*j) 2)=(b.drop a).take (2*n)
 |0,_=>rfl
 |n+1,h=>by
  have e:iT ((List.range (n+1)).map λj=>cR b (a+2*j) 2)=iT ((List.range n).map λj=>cR b (a+2*j) 2)++dG (eJ (cR b (a+2*n) 2)) 2:=by
   simp[iT,uJ,fB,Jj]
  rw[e,JZ n (by omega),zP,Zpj,show 2*n+2=2*(n+1) by omega]
theorem ZrU {b:aj} (h:2*n<=b.length:=by omega):iT (dK b n)=b.take (2*n):=by
 have:=JZ (b:=b) (a:=0) n (by omega);rw[dA]at this;rw[<-this];simp[dK]
theorem Zod {b:aj} (t:Nat): ∀(n:Nat),8*n<=b.length->ni (ZN b t n)=b.take (8*n)
 |0,_=>rfl
 |n+1,h=>by
  have app: ∀(l:List bw) (x:bw),ni (l++[x])=ni l++(dG (eJ x.gen) 4++dG (eJ x.block) 4):=λl x=>by
   induction l with
   |nil=>simp[ni]
   |cons y l ih=>simp[ni,ih]
  rw[Gn,app,Zod t n (by omega)];show _++(dG (eJ (cR b (8*n) 4)) 4++dG (eJ (cR b (8*n+4) 4)) 4)=_;rw[zP,zP,Zpj b (8*n) 4 4,show 8*(n+1)=8*n+8 by omega];grind
theorem ZrO: ∀(l:List bw) (x:bw) (k:Nat),jB k (l++[x])=jB k l+(bif x.live then 2^(k+l.length)else 0)
 |[],x,k=>by simp[jB]
 |y::l,x,k=>by
  rw[mU];unfold jB;rw[ZrO l x (k+1),cO,show k+1+l.length=k+(l.length+1) by omega];omega
theorem Zrr (b:aj) (t:Nat): ∀n,jB 0 (ZN b t n)=t%2^n
 |0=>by simp[ZN,jB,Nat.mod_one]
 |n+1=>by
  rw[Gn,ZrO,Zrr b t n,zF,eW];show t%2^n+(bif fC t n then 2^n else 0)=_;have h:=Nat.mod_pow_succ (b:=2) (k:=n) (x:=t);rw[h];grind[fC]
theorem ZvC {b:aj} (h:b.length=56) (ht:t<=12):MY (lx b t)=b.take (24+2*t):=by
 unfold MY lx nO;simp only;rw[zP,zP,zP,zP,JZ t (by omega),dA];have e1:b.take 8++(b.drop 8).take 8=b.take 16:=by rw[<-wc]
 have e2:b.take 16++(b.drop 16).take 4=b.take 20:=by rw[<-wc]
 have e3:b.take 20++(b.drop 20).take 4=b.take 24:=by rw[<-wc]
 rw[e1,e2,e3,<-wc]
theorem ZtV {b:aj} (h:b.length=56) (ht:t<=28):dG (eJ ((Z1 b t).mask:Int)) 4++iT (Z1 b t).c9++(Z1 b t).name=b.take (28+t):=by
 unfold Z1 ZT;simp only;have ax:=M7 b 0 4;have e0:((rd b 0 4:Nat):Int)=cR b 0 4:=by
  unfold cR;exact(Zc (by omega) (by have:(256:Nat)^4=4294967296:=(by decide);omega)).symm
 rw[e0,zP,JZ 12 (by omega),dA];have e1:b.take 4++(b.drop 4).take (2*12)=b.take 28:=by rw[<-wc]
 rw[e1,<-wc]
theorem Zly (k:Int):jm k=kO k 2 3071:=by
 simp[jm,kO]
theorem ZtG (x:bw):vU x=ZM x:=by
 unfold vU ZM;rw[Zly];cases x.live with
 |true=>
  rw[ae,ae];grind[kO]
 |false=>
  rw[af,af];grind[kO]
theorem ZvN {l b:aj} (ho:gf l=some (3,t,b)):Z3 l=(bif (match tN (dK b 16)with|none=>false|some c=>c==l)then some (dK b 16)else none):=by
 obtain⟨h1,h2,h3,h4⟩:=tE ho;have hr:zL (dK b 16)=(dK b 16).all λk=>k==0||jm k:=by
  simp[zL,Zly]
 unfold Z3 tN;rw[ho,<-hr];simp only;cases hrf:zL (dK b 16)with
 |false=>
  rw[af,af];simp
 |true=>
  rw[ae,ae];have key:(iz 3 0 (iT (dK b 16))==l)=(decide (t=0)&&ZG (b.drop 32)):=by
   rw[ZrU,lg,sd,aW,bC]
   conv=>lhs;rhs;rw[h1]
   have:=GR (k:=3) (t:=0) (k':=3) (t':=t) (b:=b.take (2*16)) (b':=b) (by omega) (by omega) (by omega) (by omega) (by omega) h4 (by rw[cV];omega);rw[show((3:Nat):Int)=3 from rfl,show((0:Nat):Int)=0 from rfl]at this;rw[show((3:Nat):Int)=3 from rfl,this,Kg h2,Kz h2];grind
  grind
theorem ZtP {l b:aj} (ho:gf l=some (2,t,b)):ZJ l=(bif (match wD (ZN b t 7)with|none=>false|some c=>c==l)then some (ZN b t 7)else none):=by
 obtain⟨h1,h2,h3,h4⟩:=tE ho;have hr:(ZN b t 7).all ZM=(ZN b t 7).all vU:=by
  grind[ZtG]
 unfold ZJ wD;rw[ho];simp only;rw[hr];cases hrf:(ZN b t 7).all vU with
 |false=>
  rw[af,af];simp
 |true=>
  rw[ae,ae];have key:(iz 2 ((jB 0 (ZN b t 7):Nat):Int) (ni (ZN b t 7))==l)=decide (t<128):=by
   rw[Zod t 7 (by omega),Zrr,lg,sd,bC]
   conv=>lhs;rhs;rw[h1]
   have:=GR (k:=2) (t:=t%2^7) (k':=2) (t':=t) (b:=b.take (8*7)) (b':=b) (by omega) (by omega) (by omega) (by omega) (by omega) h4 (by rw[cV];omega);rw[show((2:Nat):Int)=2 from rfl]at this;rw[show((2:Nat):Int)=2 from rfl,this,dH (show b.length<=8*7 by omega)];simp
  grind
theorem ZtX {l b:aj} (ho:gf l=some (1,t,b)) (ht:t<=12):iD l=(bif nS (lx b t)&&vS (lx b t)==l then some (lx b t)else none):=by
 obtain⟨h1,h2,h3,h4⟩:=tE ho;have key:(vS (lx b t)==l)=ZG (b.drop (24+2*t)):=by
  have gE:(lx b t).kids.length=t:=BH b t;unfold vS;rw[ZvC h2 ht,gE,lg,sd]
  conv=>lhs;rhs;rw[h1]
  have:=GR (k:=1) (t:=t) (k':=1) (t':=t) (b:=b.take (24+2*t)) (b':=b) (by omega) (by omega) h4 (by omega) (by omega) h4 (by rw[cV];omega);rw[show((1:Nat):Int)=1 from rfl]at this;rw[show((1:Nat):Int)=1 from rfl,this,Kg h2,Kz h2];simp
 grind[iD]
theorem Zsg {l b:aj} (ho:gf l=some (5,t,b)) (ht:t<=28):ZF l=(bif mo (Z1 b t)&&xF (Z1 b t)==l then some (Z1 b t)else none):=by
 obtain⟨h1,h2,h3,h4⟩:=tE ho;have Mp:(Z1 b t).name.length=t:=by
  show((b.drop 28).take t).length=t;rw[cV,fb];omega
 have key:(xF (Z1 b t)==l)=ZG (b.drop (28+t)):=by
  unfold xF;rw[ZtV h2 ht,Mp,lg,sd]
  conv=>lhs;rhs;rw[h1]
  have:=GR (k:=5) (t:=t) (k':=5) (t':=t) (b:=b.take (28+t)) (b':=b) (by omega) (by omega) h4 (by omega) (by omega) h4 (by rw[cV];omega);rw[show((5:Nat):Int)=5 from rfl]at this;rw[show((5:Nat):Int)=5 from rfl,this,Kg h2,Kz h2];simp
 unfold ZF;rw[ho,key];simp only;cases hr:mo (Z1 b t)with
 |false=>
  rw[af,fP,af];simp
 |true=>
  have h24:t<=24:=by
   have h5:=hr;unfold mo at h5;rw[aW]at h5;have:=ZtF h5.1;omega
  rw[aw h24];simp
theorem ZuO (l:ak):D0 l=(decide (1<=l.length)&&(decide (l.length<=16)&&ra l l.length)):=by
 have key: ∀n,n<=l.length->((List.range n).all λi=>qY (l.getD i 0)&& !decide (l.getD i 0∈l.take i))=ra l n:=by
  intro n;induction n with
  |zero=>intro _;rfl
  |succ n ih=>
   intro hn;rw[uJ,sa,ih (by omega)];unfold ra;have hb:qY (l.getD n 0)=jm (l.getD n 0):=by
    grind[qY,jm]
   rw[<-hb];grind[ra]
 grind[D0]
theorem ZuR {l b:aj} (ho:gf l=some (6,t,b)) (ht:t<=16):kQ l=(bif (match wK (dK b t)with|none=>false|some c=>c==l)then some (dK b t)else none):=by
 obtain⟨h1,h2,h3,h4⟩:=tE ho;have key:(iz 6 ((dK b t).length:Int) (iT (dK b t))==l)=ZG (b.drop (2*t)):=by
  rw[ZrU,nN,lg,sd]
  conv=>lhs;rhs;rw[h1]
  have:=GR (k:=6) (t:=t) (k':=6) (t':=t) (b:=b.take (2*t)) (b':=b) (by omega) (by omega) h4 (by omega) (by omega) h4 (by rw[cV];omega);rw[show((6:Nat):Int)=6 from rfl]at this;rw[show((6:Nat):Int)=6 from rfl,this,Kg h2,Kz h2];simp
 unfold kQ wK;rw[ho];simp only;rw[ZuO,aw ht];grind
theorem ZnL (n:Nat) (p:ai) (l:aj) (st:St) (hs:dE st p l) (hl:l.length=64) (hn:500<=n):
  Ok (λo=>∃s',aC st s'/\match Z3 l with
   |none=>o=(.val [.agg (ints (List.replicate 16 0)),.bool false],s')
   |some x=>o=(.val [.agg (ints x),.bool true],s')/\x.length=16) (run Bd n 308 [.slice 1 p 64] st):=by
 obtain⟨n,rfl⟩: ∃m,n=m+1:=⟨n-1,by omega⟩;rw[Ze,h.acY];unfold Oo cm wG az tn cy cM bE Lb Ls Li;simp only[bd,aq];refine Ok.call (Gg n p l st hs hl) ?_;rintro _ ⟨s1,rfl,aH⟩;refine⟨_,s1,rfl,?_⟩;have fH:=hs.mono aH;obtain⟨Q,hQ⟩: ∃Q:Out ah×St->Prop,(λo=>∃s',aC st s'/\match Z3 l with
   |none=>o=(.val [.agg (ints (List.replicate 16 0)),.bool false],s')
   |some x=>o=(.val [.agg (ints x),.bool true],s')/\x.length=16)=Q:=⟨_,rfl⟩
 have bad: ∀s',aC st s'->Z3 l=none->Ok Q ((ay [.agg (List.replicate 16 (.int .i64 0)),.bool false]:M ah) s'):=λs' hp hg=>by
  rw[Zd,<-hQ];refine .mk ⟨s',hp,?_⟩;rw[hg];rfl
 rw[hQ];unfold yU;cases ho:gf l with
 |none=>
  simp only[av,bO,au,aq];rw[Za,bm,ae];simp only[au,aq];rw[ae];exact bad s1 aH (by unfold Z3;rw[ho])
 |some q=>
  obtain⟨k,t,b⟩:=q;obtain⟨_,hb,_,_⟩:=tE ho;simp only[av,bO,au,aq];rw[Za,bp,af,nf k 3 3 rfl];simp only[au,aq];by_cases hk:k=3
  .subst hk
   rw[aw rfl,bp,af];refine Ok.join λaI jY=>?_
   refine Zj _ (λq y s=>∃i:Nat,y=[.agg (ints (dK b i)++ints (List.replicate (16-i) 0)),.int .i64 i]/\i<=16/\16-i<=q/\s=s1) ?_ 16 n _ _ ⟨0,rfl,by omega,by omega,rfl⟩ (by omega);rintro q _ s ⟨i,rfl,hi,hq,rfl⟩ rec aQ;have hlen:(ints (dK b i)++ints (List.replicate (16-i) 0)).length=16:=by
    simp[ints,nN];omega
   simp only[cG,av,aq];rw[bD hlen];by_cases ax:i<16
   .have cD:ar ((i:Int)+1)=((i+1:Nat):Int):=Zc
    have jI:ar (2*(i:Int))=((2*i:Nat):Int):=Zc;have j6:ar (((2*i:Nat):Int)+2)=((2*i+2:Nat):Int):=Zc;simp only[cD,jI,j6,br,cT];rw[aw (show(i:Int)<16 by omega),ae];rw[Zb (by rw[aW,bC,bC];omega),Zb (by rw[aW,bC,bC];omega)];rw[Zk (zI n _ s (BQ)),BS];simp only[av,aq];rw[Zb (show aP (i:Int) 16=true from Zi ax),Zb (gr (by omega))];refine aQ (16-(i+1)) _ _ (by omega) ⟨i+1,?_,by omega,aO _,rfl⟩;congr 2;rw[J0,show List.replicate (16-i) (0:Int)=0::List.replicate (16-(i+1)) 0 by rw[show 16-i=(16-(i+1))+1 by omega];rfl];have e3:i=(ints (dK b i)).length:=by simp[ints,nN]
    have e4:=sy (ints (dK b i)) [.int .i64 0] (ints (List.replicate (16-(i+1)) 0)) [.int .i64 (cR b (2*i) 2)] rfl;rw[<-e3]at e4;show cq (ints (dK b i)++([.int .i64 0]++ints (List.replicate (16-(i+1)) 0))) i [.int .i64 (cR b (2*i) 2)]=ints (dK b i++[cR b (2*i) 2])++_;rw[e4,show ints (dK b i++[cR b (2*i) 2])=ints (dK b i)++[.int .i64 (cR b (2*i) 2)] by unfold ints;rw[fB];rfl,fA]
   .rw[aD (show ¬(i:Int)<16 by omega),af]
    have oT:i=16:=by omega
    subst oT;rw[show ints (dK b 16)++ints (List.replicate (16-16) 0)=ints (dK b 16)from gA _]at hlen⊢;subst jY;simp only[cG,aq];rw[bD hlen];refine Ok.call (PO n (dK b 16) (nN b 16) s) ?_;rintro _ ⟨s2,rfl,aV⟩;refine⟨_,s2,rfl,?_⟩;have cX:=ZvN ho;cases AQ:tN (dK b 16)with
    |none=>
     rw[AQ]at cX;show Ok Q (ep [.str [],.bool false] _ s2);simp only[bO,au,aq];rw[Za,bm,ae];simp only[au,aq];rw[ae];exact bad s2 (aH.trans aV) cX
    |some c=>
     rw[AQ]at cX;simp only at cX;show Ok Q (ep [.str c,.bool true] _ s2);simp only[bO,au,aq];rw[Za,bp,af];have rl: ∀(K:ah->M ah),dw p 64 K s2=K (bZ l) s2:=λK=>by
      have:=jf (show Sl _ _ (bZ l)from fH.mono aV) K;rwa [Zt,hl]at this
     rw[rl,<-ly,nK];simp only[au,aq];cases cL:(c==l)with
     |false=>
      rw[cL]at cX;rw[bm,ae];exact bad s2 (aH.trans aV) cX
     |true=>
      rw[cL]at cX;rw[bp,af,bD hlen,Zd,<-hQ];refine .mk ⟨s2,aH.trans aV,?_⟩;rw[cX];exact⟨rfl,nN b 16⟩
  .rw[aD hk,bm,ae]
   grind[Z3]
theorem Zpl:(bP mJ:ah)=[.bool false,.int .i64 0,.int .i64 0,.bool false,.int .i64 0,.int .i64 0,.bool false,.int .i64 0,.int .i64 0,.bool false,.int .i64 0,.int .i64 0,.bool false,.int .i64 0,.int .i64 0,.bool false,.int .i64 0,.int .i64 0,.bool false,.int .i64 0,.int .i64 0]:=rfl
theorem ZmN (n:Nat) (p:ai) (l:aj) (st:St) (hs:dE st p l) (hl:l.length=64) (hn:500<=n):
  Ok (λo=>∃s',aC st s'/\match ZJ l with
   |none=>o=(.val [.agg (bP mJ),.bool false],s')
   |some x=>o=(.val [.agg (bP x),.bool true],s')/\x.length=7) (run Bd n 309 [.slice 1 p 64] st):=by
 obtain⟨n,rfl⟩: ∃m,n=m+1:=⟨n-1,by omega⟩;rw[Ze,h.acZ];unfold OP cm wG az tn cy mh bE ZE Lb Ls qN Z7;simp only[bd,aq];rw[<-Zpl];refine Ok.call (Gg n p l st hs hl) ?_;rintro _ ⟨s1,rfl,aH⟩;refine⟨_,s1,rfl,?_⟩;have fH:=hs.mono aH;obtain⟨Q,hQ⟩: ∃Q:Out ah×St->Prop,(λo=>∃s',aC st s'/\match ZJ l with
   |none=>o=(.val [.agg (bP mJ),.bool false],s')
   |some x=>o=(.val [.agg (bP x),.bool true],s')/\x.length=7)=Q:=⟨_,rfl⟩
 have bad: ∀s',aC st s'->ZJ l=none->Ok Q ((ay [.agg (bP mJ),.bool false]:M ah) s'):=λs' hp hg=>by
  rw[Zd,<-hQ];refine .mk ⟨s',hp,?_⟩;rw[hg]
 rw[hQ];unfold yU;cases ho:gf l with
 |none=>
  simp only[av,bO,au,aq];rw[Za,bm,ae];simp only[au,aq];rw[ae];exact bad s1 aH (by unfold ZJ;rw[ho])
 |some q=>
  obtain⟨k,t,b⟩:=q;obtain⟨_,hb,_,ht⟩:=tE ho;simp only[av,bO,au,aq];rw[Za,bp,af,nf k 2 2 rfl];simp only[au,aq];by_cases hk:k=2
  .subst hk
   rw[aw rfl,bp,af];refine Ok.join λaI jY=>?_
   refine Zj _ (λq y s=>∃i:Nat,y=[.agg (bP (ZN b t i)++bP (List.replicate (7-i) jg)),.int .i64 i]/\i<=7/\7-i<=q/\s=s1) ?_ 7 n _ _ ⟨0,rfl,by omega,by omega,rfl⟩ (by omega);rintro q _ s ⟨i,rfl,hi,hq,rfl⟩ rec aQ;have hlen:(bP (ZN b t i)++bP (List.replicate (7-i) jg)).length=21:=by
    rw[bA,Zx,Zx,zF,uH];omega
   simp only[cG,av,aq];rw[bD hlen];by_cases ax:i<7
   .have cD:ar ((i:Int)+1)=((i+1:Nat):Int):=Zc
    have jI:ar (8*(i:Int))=((8*i:Nat):Int):=Zc;have j6:ar (((8*i:Nat):Int)+4)=((8*i+4:Nat):Int):=Zc;have qm:ar (((8*i:Nat):Int)+8)=((8*i+4+4:Nat):Int):=Zc;have aV:2^i<=2^6:=mX (by decide) (by omega);have U9:=Nat.two_pow_pos i;have hw6:ar (1*2^(min i 64))=((2^i:Nat):Int):=by
     rw[mW (by omega),Int.one_mul,show((2:Int)^i)=((2^i:Nat):Int) by simp];exact Zc
    simp only[cD,jI,j6,qm,br,hw6];have adr:((ar (((t:Nat):Int).tdiv ((2^i:Nat):Int))).tmod 2==1)=fC t i:=by
     rw[show(((t:Nat):Int).tdiv ((2^i:Nat):Int))=((t/2^i:Nat):Int)from rfl];unfold fC;have hd:t/2^i<=t:=Dm _ _;generalize t/2^i=d at hd;rw[Zc,show((d:Nat):Int).tmod 2=((d%2:Nat):Int)from rfl];exact nf _ 1 1 rfl
    rw[aw (show(i:Int)<7 by omega),ae];rw[Zb (aw (by omega)),Zb (by rw[dX.2 (by omega)];rfl),Zb (by rw[aW,bC,bC];omega),Zb (by rw[aW,bC,bC];omega)];rw[wu (zI n _ s (BQ)),BS];simp only[av,aq];rw[Zb (by rw[aW,bC,bC];omega),Zb (by rw[aW,bC,bC];omega)];rw[wu (zI n _ s (BQ)),BS];simp only[av,aq];rw[adr,Zb (show aP (i:Int) 7=true from Zi ax),Zb (gr (by omega))];refine aQ (7-(i+1)) _ _ (by omega) ⟨i+1,?_,by omega,aO _,rfl⟩;congr 2;have e2:List.replicate (7-i) jg=jg::List.replicate (7-(i+1)) jg:=by rw[show 7-i=(7-(i+1))+1 by omega];rfl
    have e3:i*3=(bP (ZN b t i)).length:=by rw[Zx,zF]
    have e4:=sy (bP (ZN b t i)) (ee jg) (bP (List.replicate (7-(i+1)) jg)) (ee (uU b t i)) rfl;rw[<-e3]at e4;rw[Gn,GD,e2];show cq (bP (ZN b t i)++(ee jg++bP (List.replicate (7-(i+1)) jg))) (i*3) (ee (uU b t i))=(bP (ZN b t i)++bP [uU b t i])++_;rw[e4,fA];congr 1
   .rw[aD (show ¬(i:Int)<7 by omega),af]
    have oT:i=7:=by omega
    subst oT;rw[show bP (ZN b t 7)++bP (List.replicate (7-7) jg)=bP (ZN b t 7)from gA _]at hlen⊢;subst jY;simp only[cG,aq];rw[bD hlen];refine Ok.call (ZkE n (ZN b t 7) (zF b t 7) s) ?_;rintro _ ⟨s2,rfl,aV⟩;refine⟨_,s2,rfl,?_⟩;have cX:=ZtP ho;cases AQ:wD (ZN b t 7)with
    |none=>
     rw[AQ]at cX;show Ok Q (ep [.str [],.bool false] _ s2);simp only[bO,au,aq];rw[Za,bm,ae];simp only[au,aq];rw[ae];exact bad s2 (aH.trans aV) cX
    |some c=>
     rw[AQ]at cX;simp only at cX;show Ok Q (ep [.str c,.bool true] _ s2);simp only[bO,au,aq];rw[Za,bp,af];have rl: ∀(K:ah->M ah),dw p 64 K s2=K (bZ l) s2:=λK=>by
      have:=jf (show Sl _ _ (bZ l)from fH.mono aV) K;rwa [Zt,hl]at this
     rw[rl,<-ly,nK];simp only[au,aq];cases cL:(c==l)with
     |false=>
      rw[cL]at cX;rw[bm,ae];exact bad s2 (aH.trans aV) cX
     |true=>
      rw[cL]at cX;rw[bp,af,bD hlen,Zd,<-hQ];refine .mk ⟨s2,aH.trans aV,?_⟩;rw[cX];exact⟨rfl,zF b t 7⟩
  .rw[aD hk,bm,ae]
   grind[ZJ]
theorem ZuQ (k:Int):CT k= !jm k:=by
 grind[CT,jm]
theorem Zuq (x:jj):nS x=((bif (bif (bif decide (x.bI.slot>=0)then decide (x.bI.slot<=1791)else false)then decide (x.bI.gen>=1)else false)then decide (x.bI.gen<=4294967295)else false)&&decide ((x.kids.length:Int)<=12)&&x.kids.all jm):=by
 have hk:(!x.kids.any CT)=x.kids.all jm:=by
  rw[lg,lL,List.any_eq_false,uF];simp[ZuQ]
 grind[nS]
theorem ZoL (n:Nat) (x:jj) (z:Nat) (p:ai) (st:St) (hz:z=1\/p=none) (hs:Sl st p (ints x.kids)) (hl:x.kids.length<1000) (hn:x.kids.length+10<=n):
  Ok (λo=>o=(.val [.bool (nS x)],st)) (run Bd n 319 [.agg (nA x z p)] st):=by
 obtain⟨n,rfl⟩: ∃m,n=m+2:=⟨n-2,by omega⟩;rw[Ze,h.ac8];unfold Pd DK az cy Zn aY Lb Li Du;rw[de];unfold nA eN;simp only[mU,iL,av,Zf 1 z p _ hz,aq];refine Ok.join λaA qd=>?_
 have go: ∀c:Bool,c=(bif (bif (bif decide (x.bI.slot>=0)then decide (x.bI.slot<=1791)else false)then decide (x.bI.gen>=1)else false)then decide (x.bI.gen<=4294967295)else false)->
   Ok (λo=>o=(.val [.bool (nS x)],st)) (cW (λaU st=>
      gP st λA0 st=>
      aF .i64 st λi st=>
      aJ st<|
      cI (λst=>gP st λb5 st=>aJ st<|
       bif b5 then
       bJ p λi1 o=>
      aB (aP i x.kids.length)<|
      bF i1 (i.toNat*1+o) λd=>
      cP .i64 d λx=>
      cY (run Bd (n+1) 251 [.int .i64 x]) λds=>
      gP ds λx1 ds=>
      aJ ds<|
      aU [.bool x1,.int .i64 (ar (i+1))]
      else
       (ay [.bool A0]:M ah)) λdp=>
      bif decide (i<(x.kids.length:Int))then
       dp [.bool A0]
      else
       dp [.bool false]) (n+1) [.bool (c&&decide ((x.kids.length:Int)<=12)),.int .i64 0] st):=λc hc=>by
  rw[Zuq,<-hc];generalize (c&&decide ((x.kids.length:Int)<=12))=e;refine Zj _ (λq y t=>∃i:Nat,y=[.bool (e&&(x.kids.take i).all jm),.int .i64 (i:Int)]/\i<=x.kids.length/\x.kids.length-i<=q/\t=st) ?_ x.kids.length (n+1) _ _ (by grind) (by omega);rintro q y t ⟨i,rfl,hi,hq,rfl⟩ rec aQ;simp only[au,av,aq];rw[Za];by_cases ax:i<x.kids.length
  .rw[aw (show(i:Int)<(x.kids.length:Int) by omega),ae]
   simp only[au,aq];have fZ:x.kids.take (i+1)=x.kids.take i++[x.kids[i]]:=by simp
   cases hb:(e&&(x.kids.take i).all jm)with
   |true=>
    obtain⟨i1,o1,rfl⟩:=hs.cB (by simp[ints];omega);have cZ:(ints x.kids)[i]? =some (.int .i64 x.kids[i]):=ZA ax;rw[ae,aZ,Zb (Zi ax)];simp only[br];rw[hs.dF cZ];simp only[aX];rw[Zk (Ge n _ t)];simp only[au,aq];rw[Zc];refine aQ (x.kids.length-(i+1)) _ _ (by omega) ⟨i+1,?_,by omega,aO _,rfl⟩;rw[aW]at hb;rw[fZ,sa,hb.1,hb.2];simp
   |false=>
    rw[af,Zd];refine .mk ?_;grind
  .rw[aD (show ¬(i:Int)<(x.kids.length:Int) by omega),af]
   simp only[au,aq];rw[af,dH (by omega),Zd];exact .mk rfl
 subst qd;cases h1:decide (x.bI.slot>=0)with
 |true=>
  rw[ae];simp only[au,aq];have:=go (bif (bif decide (x.bI.slot<=1791)then decide (x.bI.gen>=1)else false)then decide (x.bI.gen<=4294967295)else false) (by rw[h1];rfl);rw[Za];cases h2:decide (x.bI.slot<=1791)with
  |true=>
   rw[h2]at this;simp only[ae,au,aq,Za]at this⊢;grind
  |false=>
   rw[h2]at this;simp only[af,au,aq,Za,fP]at this⊢;exact this
 |false=>
  rw[af];have:=go false (by rw[h1];rfl);simp only[af,au,aq,Za,fP]at this⊢;exact this
theorem ZrW (n:Nat) (p:ai) (l:aj) (st:St) (hs:dE st p l) (hl:l.length=64) (hn:3000<=n):
  Ok (λo=>∃s',aC st s'/\match iD l with
   |none=>o=(.val [.agg [.int .i64 0,.int .i64 0,.int .i64 0,.int .i64 0,.slice 0 none 0],.bool false],s')
   |some x=>∃q,o=(.val [.agg (nA x 1 q),.bool true],s')/\Fz s' q (ints x.kids)) (run Bd n 311 [.slice 1 p 64] st):=by
 obtain⟨n,rfl⟩: ∃m,n=m+1:=⟨n-1,by omega⟩;rw[Ze,h.ac1];unfold Qu cm wG az uL DX aY jD DF mh bE zD Ls wA DL Lb Li DH DJ;simp only[bd,aq,kl];refine Ok.call (Gg n p l st hs hl) ?_;rintro _ ⟨s1,rfl,aH⟩;refine⟨_,s1,rfl,?_⟩;have fH:=hs.mono aH;obtain⟨Q,hQ⟩: ∃Q:Out ah×St->Prop,(λo=>∃s',aC st s'/\match iD l with
   |none=>o=(.val [.agg [.int .i64 0,.int .i64 0,.int .i64 0,.int .i64 0,.slice 0 none 0],.bool false],s')
   |some x=>∃q,o=(.val [.agg (nA x 1 q),.bool true],s')/\Fz s' q (ints x.kids))=Q:=⟨_,rfl⟩
 have bad: ∀s',aC st s'->iD l=none->Ok Q ((cu st.length [.agg [.int .i64 0,.int .i64 0,.int .i64 0,.int .i64 0,.slice 0 none 0],.bool false]:M ah) s'):=λs' hp hg=>by
  rw[Zu,<-hQ];refine .mk ⟨_,Zv hp,?_⟩;rw[hg]
 rw[hQ];unfold yU;cases ho:gf l with
 |none=>
  simp only[av,bO,au,aq];rw[Za,bm,ae];simp only[au,aq];rw[Za,ae];simp only[au,aq];rw[ae];exact bad s1 aH (by unfold iD;rw[ho])
 |some q=>
  obtain⟨k,t,b⟩:=q;obtain⟨_,hb,_,ht⟩:=tE ho;simp only[av,bO,au,aq];rw[Za,bp,af,nf k 1 1 rfl];simp only[au,aq];rw[Za];by_cases hk:k=1
  .subst hk
   rw[aw rfl,bp,af];simp only[au,aq];by_cases Iv:t<=12
   .rw[aD (show ¬(t:Int)>12 by omega),af]
    have cX:=ZtX ho Iv;have rn: ∀(a c:Nat),c<=8->run Bd n 292 [.str ((b.take (a+c)).drop a)] s1=some (.val [.int .i64 (cR b a c)],s1):=λa c hc=>by
     rw[zI n _ s1 (BQ hc),BS]
    rw[Zb (aw (by omega)),qR (rn 16 4 (by omega)) (.refl _)];simp only[av,aq];rw[Zb (aw (by omega)),qR (rn 20 4 (by omega)) (.refl _)];simp only[av,aq];have r0:run Bd n 292 [.str (b.take 8)] s1=some (.val [.int .i64 (cR b 0 8)],s1):=by
     have:=rn 0 8 (by omega);rwa [dA]at this
    rw[Zb (aw (by omega)),qR r0 (.refl _)];simp only[av,aq];rw[Zb (aw (by omega)),qR (rn 8 8 (by omega)) (.refl _)];simp only[av,aq];refine Ok.join λaR lW=>?_
    refine Zj _ (λq y s=>∃(i z:Nat) (pk:ai),y=[.agg [.int .i64 (cR b 16 4),.int .i64 (cR b 20 4),.int .i64 (cR b 0 8),.int .i64 (cR b 8 8),.slice z pk i],.int .i64 i]/\(z=1\/pk=none)/\i<=t/\t-i<=q/\bn st s pk (ints (nO b i))/\dE s p l) ?_ t n _ _ ⟨0,0,none,rfl,.inr rfl,by omega,by omega,.nil aH,fH⟩ (by omega);rintro q _ s ⟨i,z,pk,rfl,hz,hi,hq,gZ,w9⟩ rec aQ;rw[de];simp only[av,Zf 1 z pk _ hz,aq];have gE:(nO b i).length=i:=BH b i;have jX:(ints (nO b i)).length=i*1:=by simp[ints,gE]
    by_cases ax:i<t
    .have cD:ar ((i:Int)+1)=((i+1:Nat):Int):=Zc
     have jI:ar (2*(i:Int))=((2*i:Nat):Int):=Zc;have j6:ar (26+((2*i:Nat):Int))=((24+2*i+2:Nat):Int):=by rw[Zc];omega
     have qm:ar (24+((2*i:Nat):Int))=((24+2*i:Nat):Int):=by rw[Zc];omega
     simp only[cD,jI,j6,qm,br];rw[aw (show(i:Int)<(t:Int) by omega),ae];rw[Zb (by rw[aW,bC,bC];omega),Zb (by rw[aW,bC,bC];omega)];rw[wu (zI n _ s (BQ (a:=24+2*i))),BS];simp only[av,aq];obtain⟨q2,s2,df,xa⟩:=gZ.push (β:=ah) (sz:=1) (n:=i) (lim:=8796093022208) [.int .i64 (cR b (24+2*i) 2)] (by omega) jX rfl (by omega);rw[xa];refine aQ (t-(i+1)) _ _ (by omega) ⟨i+1,1,q2,rfl,.inl rfl,by omega,aO _,?_,?_⟩
     .rw[Zmr,show ints (nO b i++[cR b (24+2*i) 2])=ints (nO b i)++[.int .i64 (cR b (24+2*i) 2)] by unfold ints;rw[fB];rfl]
      exact df
     .exact hs.mono df.1
    .rw[aD (show ¬(i:Int)<(t:Int) by omega),af]
     have Ct:i=t:=by omega
     subst Ct;subst lW;show Ok Q (bj [DV.agg _] _ s);rw[de];simp only[av,bd,aq];have dN:Sl s pk (ints (lx b i).kids):=gZ.sl;have oV:(lx b i).kids.length=i:=gE;have p9:([.int .i64 (cR b 16 4),.int .i64 (cR b 20 4),.int .i64 (cR b 0 8),.int .i64 (cR b 8 8),.slice 1 pk i]:ah)=nA (lx b i) 1 pk:=by
      unfold nA eN lx;grind
     rw[p9];refine Ok.call (ZoL n (lx b i) 1 pk s (.inl rfl) dN (by omega) (by omega)) ?_;rintro _ rfl;refine⟨_,s,rfl,?_⟩;simp only[au,aq];rw[Za];cases hr:nS (lx b i)with
     |false=>
      rw[hr,fP,af]at cX;rw[bm,ae];simp only[au,aq];rw[ae];exact bad s gZ.1 cX
     |true=>
      rw[hr,dx]at cX;rw[bp,af];refine Ok.lT (Zk6 n (lx b i) 1 pk s (.inl rfl) dN (by omega)) ?_;rintro _ ⟨s2,rfl,aV⟩;refine⟨_,s2,rfl,aV,?_⟩;simp only[bO,aq];have rl: ∀(K:ah->M ah),dw p 64 K s2=K (bZ l) s2:=λK=>by
       have:=jf (show Sl _ _ (bZ l)from w9.mono aV) K;rwa [Zt,hl]at this
      rw[rl,<-ly,nK];simp only[au,aq];have qi:=gZ.mono aV;cases cL:(vS (lx b i)==l)with
      |false=>
       rw[cL]at cX;rw[bm,ae];exact bad s2 qi.1 cX
      |true=>
       rw[cL,ae]at cX;rw[bp,af,Zu,<-hQ];refine .mk ⟨_,Zv qi.1,?_⟩;rw[cX];exact⟨pk,rfl,qi.fz⟩
   .rw[aw (show(t:Int)>12 by omega),ae]
    refine bad s1 aH ?_;unfold iD;rw[ho];grind
  .rw[aD hk,bm,ae]
   simp_all[iD]
theorem Zne (n:Nat) (p:ai) (l:aj) (st:St) (hs:dE st p l) (hl:l.length=64) (hn:3000<=n):
  Ok (λo=>∃s',aC st s'/\match kQ l with
   |none=>o=(.val [.slice 0 none 0,.bool false],s')
   |some x=>∃q,o=(.val [.slice 1 q x.length,.bool true],s')/\Sl s' q (ints x)/\x.length<=16) (run Bd n 269 [.slice 1 p 64] st):=by
 obtain⟨n,rfl⟩: ∃m,n=m+1:=⟨n-1,by omega⟩;rw[Ze,h.acy];unfold Ov cm wG az fX tn lu cM bE tt Lb Ls Li eU jQ;simp only[bd,aq,kl];refine Ok.call (Gg n p l st hs hl) ?_;rintro _ ⟨s1,rfl,aH⟩;refine⟨_,s1,rfl,?_⟩;obtain⟨Q,hQ⟩: ∃Q:Out ah×St->Prop,(λo=>∃s',aC st s'/\match kQ l with
   |none=>o=(.val [.slice 0 none 0,.bool false],s')
   |some x=>∃q,o=(.val [.slice 1 q x.length,.bool true],s')/\Sl s' q (ints x)/\x.length<=16)=Q:=⟨_,rfl⟩
 have bad: ∀s',aC st s'->kQ l=none->Ok Q ((cu st.length [.slice 0 none 0,.bool false]:M ah) s'):=λs' hp hg=>by
  rw[Zu,<-hQ];refine .mk ⟨_,Zv hp,?_⟩;rw[hg]
 rw[hQ];unfold yU;cases ho:gf l with
 |none=>
  simp only[av,bO,au,aq];rw[Za,bm,ae];simp only[au,aq];rw[Za,ae];simp only[au,aq];rw[ae];exact bad s1 aH (by unfold kQ;rw[ho])
 |some q=>
  obtain⟨k,t,b⟩:=q;obtain⟨_,hb,_,ht⟩:=tE ho;simp only[av,bO,au,aq];rw[Za,bp,af,nf k 6 6 rfl];simp only[au,aq];rw[Za];by_cases hk:k=6
  .subst hk
   rw[aw rfl,bp,af];simp only[au,aq];by_cases Iv:t<=16
   .rw[aD (show ¬(t:Int)>16 by omega),af]
    have cX:=ZuR ho Iv;refine Ok.join λaR lW=>?_
    refine Zj _ (λq y s=>∃(i z:Nat) (pk:ai),y=[.slice z pk i,.int .i64 i]/\(z=1\/pk=none)/\i<=t/\t-i<=q/\bn st s pk (ints (dK b i))) ?_ t n _ _ ⟨0,0,none,rfl,.inr rfl,by omega,by omega,.nil aH⟩ (by omega);rintro q _ s ⟨i,z,pk,rfl,hz,hi,hq,gZ⟩ rec aQ;simp only[av,Zf 1 z pk _ hz,aq];have gE:(dK b i).length=i:=nN b i;have jX:(ints (dK b i)).length=i*1:=by simp[ints,gE]
    by_cases ax:i<t
    .have cD:ar ((i:Int)+1)=((i+1:Nat):Int):=Zc
     have jI:ar (2*(i:Int))=((2*i:Nat):Int):=Zc;have j6:ar (((2*i:Nat):Int)+2)=((2*i+2:Nat):Int):=by rw[Zc];omega
     simp only[cD,jI,j6,br];rw[aw (show(i:Int)<(t:Int) by omega),ae];rw[Zb (by rw[aW,bC,bC];omega),Zb (by rw[aW,bC,bC];omega)];rw[Zk (zI n _ s (BQ (a:=2*i))),BS];simp only[av,aq];obtain⟨q2,s2,df,xa⟩:=gZ.push (β:=ah) (sz:=1) (n:=i) (lim:=8796093022208) [.int .i64 (cR b (2*i) 2)] (by omega) jX rfl (by omega);rw[xa];refine aQ (t-(i+1)) _ _ (by omega) ⟨i+1,1,q2,rfl,.inl rfl,by omega,aO _,?_⟩;rw[J0,show ints (dK b i++[cR b (2*i) 2])=ints (dK b i)++[.int .i64 (cR b (2*i) 2)] by unfold ints;rw[fB];rfl];exact df
    .rw[aD (show ¬(i:Int)<(t:Int) by omega),af]
     have Ct:i=t:=by omega
     subst Ct;subst lW;simp only[bd,aq];have hdc:=ZkX n (dK b i) 1 pk s (.inl rfl) gZ.sl;rw[gE]at hdc;refine Ok.call hdc ?_;rintro _ ⟨s2,rfl,aV⟩;refine⟨_,s2,rfl,?_⟩;have qi:=gZ.mono aV;cases AQ:wK (dK b i)with
     |none=>
      rw[AQ]at cX;show Ok Q (ep [.str [],.bool false] _ s2);simp only[bO,au,aq];rw[Za,bm,ae];simp only[au,aq];rw[ae];exact bad s2 qi.1 cX
     |some c=>
      rw[AQ]at cX;simp only at cX;show Ok Q (ep [.str c,.bool true] _ s2);simp only[bO,au,aq];rw[Za,bp,af];have rl: ∀(K:ah->M ah),dw p 64 K s2=K (bZ l) s2:=λK=>by
       have:=jf (show Sl _ _ (bZ l)from hs.mono qi.1) K;rwa [Zt,hl]at this
      rw[rl,<-ly,nK];simp only[au,aq];cases cL:(c==l)with
      |false=>
       rw[cL]at cX;rw[bm,ae];exact bad s2 qi.1 cX
      |true=>
       rw[cL]at cX;rw[bp,af,Zu,<-hQ];refine .mk ⟨_,Zv qi.1,?_⟩;rw[cX];exact⟨pk,by rw[gE],qi.sl.fK _,by omega⟩
   .rw[aw (show(t:Int)>16 by omega),ae]
    refine bad s1 aH ?_;unfold kQ;rw[ho];grind
  .rw[aD hk,bm,ae]
   simp_all[kQ]
theorem ZuH (k:Int):qY k=jm k:=by
 grind[qY,jm]
theorem Zpa (n:Nat) (x:ZC) (st:St) (hl:x.c9.length=12) (hm:x.mask<4294967296) (hs:x.name.length<1000) (hn:x.name.length+30<=n):
  Ok (λo=>∃s',o=(.val [.bool (mo x)],s')/\aC st s') (run Bd n 293 [.agg (ZU x)] st):=by
 obtain⟨n,rfl⟩: ∃m,n=m+2:=⟨n-2,by omega⟩;rw[Ze,h.acO];unfold Pb aY az Q_ gK Ls Lb fW Li;rw[de];unfold ZU;have jX:(ints x.c9).length=12:=by simp[ints,hl]
 simp only[bO,av];rw[bD jX];simp only[aq];rw[bD (by grind)];refine Ok.call (Zjy (n+1) x.name (by omega) (by omega) st) ?_;rintro _ ⟨s1,rfl,aH⟩;refine⟨_,s1,rfl,?_⟩;simp only[au,aq];have bad:mo x=false->Ok (λo=>∃s',o=(.val [.bool (mo x)],s')/\aC st s') ((ay [.bool false]:M ah) s1):=λhr=>by
  rw[Zd];exact .mk ⟨s1,by rw[hr],aH⟩
 rw[Za];cases rB:qU x.name with
 |false=>
  rw[bm,ae];simp only[au,aq];rw[Za,ae];simp only[au,aq];rw[ae];exact bad (by grind[mo])
 |true=>
 rw[bp,af,aD (show ¬((x.mask:Nat):Int)<0 by omega)];simp only[au,aq];rw[Za,af];by_cases h4:((x.mask:Nat):Int)>4095
 .rw[aw h4]
  simp only[au,aq];rw[ae];grind[mo]
 rw[aD h4];simp only[au,aq];rw[af];have hq:mo x=(List.range 12).all λi=>qa x.mask i (x.c9.getD i 0):=by
  grind[mo]
 refine Ok.join λaR lW=>?_
 refine Zj _ (λq y t=>∃i:Nat,y=[.int .i64 ((x.mask/2^i:Nat):Int),.int .i64 (i:Int)]/\i<=12/\12-i<=q/\t=s1/\∀j,j<i->qa x.mask j (x.c9.getD j 0)=true) ?_ 12 (n+1) _ _ (by grind) (by omega);rintro q y t ⟨i,rfl,hi,hqi,rfl,cQ⟩ rec aQ;simp only[av,aq];by_cases ax:i<12
 .have cZ:(ints x.c9)[i]? =some (.int .i64 (x.c9.getD i 0)):=by
   rw[ZA,dZ,cg (by omega)];rfl
  obtain⟨w,hw⟩: ∃w,x.c9.getD i 0=w:=⟨_,rfl⟩;obtain⟨m,kB⟩: ∃m,x.mask/2^i=m:=⟨_,rfl⟩;have gF:x.mask/2^(i+1)=m/2:=by rw[zl,<-Nat.div_div_eq_div_mul,kB]
  have agP:m<=x.mask:=by rw[<-kB];exact Dm _ _
  have hhf:qa x.mask i w=bif decide (m%2=1)then jm w else w==0:=by
   unfold qa fC;rw[kB,ZuH]
  rw[hw]at cZ;rw[kB,aw (show(i:Int)<12 by omega),ae];have e0:(((m:Nat):Int).tmod 2==0)=decide (m%2=0):=by
   rw[show((m:Nat):Int).tmod 2=((m%2:Nat):Int)from rfl];exact nf _ 0 0 rfl
  have e1:(((m:Nat):Int).tmod 2==1)=decide (m%2=1):=by
   rw[show((m:Nat):Int).tmod 2=((m%2:Nat):Int)from rfl];exact nf _ 1 1 rfl
  rw[e0,e1];have yq:qa x.mask i w=true->Ok (λo=>∃s',o=(.val [.bool (mo x)],s')/\aC st s') (rec [.int .i64 (ar (((m:Nat):Int).tdiv 2)),.int .i64 (ar ((i:Int)+1))] t):=λhf=>by
   rw[show((m:Nat):Int).tdiv 2=((m/2:Nat):Int)from rfl,Zc,Zc];refine aQ (12-(i+1)) _ _ (by omega) ⟨i+1,by rw[gF];rfl,by omega,aO _,rfl,λj hj=>?_⟩;by_cases kz:j=i
   .rw[kz,hw];exact hf
   grind
  rw[Za];by_cases Mt:m%2=1
  .rw[aw Mt,ae]at hhf
   rw[aD (show ¬m%2=0 by omega),af];simp only[au,aq];rw[Za,af,Za,aw Mt,ae,Zb (show aP (i:Int) 12=true from Zi ax)];simp only[br,cT];rw[gW cZ];simp only[aX];rw[Zk (Ge n w t)];simp only[au,aq];grind
  .rw[aD Mt,af]at hhf
   rw[aw (show m%2=0 by omega),ae,Zb (show aP (i:Int) 12=true from Zi ax)];simp only[br,cT];rw[gW cZ];simp only[aX,au,aq];rw[Za];cases hz:(w==0)with
   |true=>
    rw[bp,af,Za,aD Mt,af];simp only[au,aq];rw[af];grind
   |false=>
    rw[bm,ae];simp only[au,aq];rw[ae];grind
 .rw[aD (show ¬(i:Int)<12 by omega),af,lW]
  simp only[aq,Zd];refine .mk ⟨t,?_,aH⟩;grind
theorem ZrN (n:Nat) (p:ai) (l:aj) (st:St) (hs:dE st p l) (hl:l.length=64) (hn:3000<=n):
  Ok (λo=>∃s',aC st s'/\match ZF l with
   |none=>o=(.val [.agg (ZU B5),.bool false],s')
   |some x=>o=(.val [.agg (ZU x),.bool true],s')/\x.c9.length=12) (run Bd n 270 [.slice 1 p 64] st):=by
 obtain⟨n,rfl⟩: ∃m,n=m+1:=⟨n-1,by omega⟩;rw[Ze,h.acz];unfold QF cm wG az uL aY jD cy cM bE Dy Ls Lb Li DD;simp only[bd,aq];refine Ok.call (Gg n p l st hs hl) ?_;rintro _ ⟨s1,rfl,aH⟩;refine⟨_,s1,rfl,?_⟩;have fH:=hs.mono aH;obtain⟨Q,hQ⟩: ∃Q:Out ah×St->Prop,(λo=>∃s',aC st s'/\match ZF l with
   |none=>o=(.val [.agg (ZU B5),.bool false],s')
   |some x=>o=(.val [.agg (ZU x),.bool true],s')/\x.c9.length=12)=Q:=⟨_,rfl⟩
 have hq0:(ZU B5:ah)=[.str (bs []),.int .i64 0,.int .i64 0,.int .i64 0,.int .i64 0,.int .i64 0,.int .i64 0,.int .i64 0,.int .i64 0,.int .i64 0,.int .i64 0,.int .i64 0,.int .i64 0,.int .i64 0]:=rfl;rw[<-hq0];have bad: ∀s',aC st s'->ZF l=none->Ok Q ((ay [.agg (ZU B5),.bool false]:M ah) s'):=λs' hp hg=>by
  rw[Zd,<-hQ];refine .mk ⟨s',hp,?_⟩;rw[hg]
 rw[hQ];unfold yU;cases ho:gf l with
 |none=>
  simp only[av,bO,au,aq];rw[Za,bm,ae];simp only[au,aq];rw[Za,ae];simp only[au,aq];rw[ae];exact bad s1 aH (by grind[ZF])
 |some q=>
  obtain⟨k,t,b⟩:=q;obtain⟨_,hb,_,ht⟩:=tE ho;simp only[av,bO,au,aq];rw[Za,bp,af,nf k 5 5 rfl];simp only[au,aq];rw[Za];by_cases hk:k=5
  .subst hk
   rw[aw rfl,bp,af];simp only[au,aq];by_cases Iv:t<=28
   .rw[aD (show ¬(t:Int)>28 by omega),af]
    have cX:=Zsg ho Iv;have r0:run Bd n 292 [.str (b.take 4)] s1=some (.val [.int .i64 ((rd b 0 4:Nat):Int)],s1):=by
     rw[zI n _ s1 (by rw[cV];omega)];have e:eZ (b.take 4)=rd b 0 4:=by unfold rd;rw[dA]
     have ax:=M7 b 0 4;rw[e,Zc]
    rw[Zb (aw (by omega)),qR r0 (.refl _)];simp only[av,aq];have ae9:ar (28+(t:Int))=((28+t:Nat):Int):=by rw[Zc];omega
    rw[ae9,Zb (by rw[aW,bC,bC];omega),Zb (aw (by omega))];simp only[br];have rB:(b.take (28+t)).drop 28=(b.drop 28).take t:=by rw[Dd,show 28+t-28=t by omega]
    rw[rB];refine Ok.join λaR lW=>?_
    refine Zj _ (λq y s=>∃i:Nat,y=[.agg (DV.str ((b.drop 28).take t)::DV.int .i64 ((rd b 0 4:Nat):Int)::(ints (ZT b i)++ints (List.replicate (12-i) 0))),.int .i64 i]/\i<=12/\12-i<=q/\s=s1) ?_ 12 n _ _ ⟨0,rfl,by omega,by omega,rfl⟩ (by omega);rintro q _ s ⟨i,rfl,hi,hq,rfl⟩ rec aQ;have hlen:(ints (ZT b i)++ints (List.replicate (12-i) 0)).length=12:=by
     simp[ints,BB];omega
    rw[de];simp only[bO,av];rw[bD hlen];simp only[av,aq];by_cases ax:i<12
    .have cD:ar ((i:Int)+1)=((i+1:Nat):Int):=Zc
     have jI:ar (2*(i:Int))=((2*i:Nat):Int):=Zc;have j6:ar (6+((2*i:Nat):Int))=((4+2*i+2:Nat):Int):=by rw[Zc];omega
     have qm:ar (4+((2*i:Nat):Int))=((4+2*i:Nat):Int):=by rw[Zc];omega
     simp only[cD,jI,j6,qm,br,cT];rw[aw (show(i:Int)<12 by omega),ae];rw[Zb (by rw[aW,bC,bC];omega),Zb (by rw[aW,bC,bC];omega)];rw[Zk (zI n _ s (BQ (a:=4+2*i))),BS];simp only[av,aq];rw[Zb (show aP (i:Int) 12=true from Zi ax),Zb (gr (by omega))];refine aQ (12-(i+1)) _ _ (by omega) ⟨i+1,?_,by omega,aO _,rfl⟩;congr 4;rw[Zlc,show List.replicate (12-i) (0:Int)=0::List.replicate (12-(i+1)) 0 by rw[show 12-i=(12-(i+1))+1 by omega];rfl];have e3:i=(ints (ZT b i)).length:=by simp[ints,BB]
     have e4:=sy (ints (ZT b i)) [.int .i64 0] (ints (List.replicate (12-(i+1)) 0)) [.int .i64 (cR b (4+2*i) 2)] rfl;rw[<-e3]at e4;show cq (ints (ZT b i)++([.int .i64 0]++ints (List.replicate (12-(i+1)) 0))) i [.int .i64 (cR b (4+2*i) 2)]=ints (ZT b i++[cR b (4+2*i) 2])++_;rw[e4,show ints (ZT b i++[cR b (4+2*i) 2])=ints (ZT b i)++[.int .i64 (cR b (4+2*i) 2)] by unfold ints;rw[fB];rfl,fA]
    .rw[aD (show ¬(i:Int)<12 by omega),af]
     have oT:i=12:=by omega
     subst oT;rw[show ints (ZT b 12)++ints (List.replicate (12-12) 0)=ints (ZT b 12)from gA _]at hlen⊢;have p9:(DV.str ((b.drop 28).take t)::DV.int .i64 ((rd b 0 4:Nat):Int)::ints (ZT b 12))=ZU (Z1 b t):=rfl;have AF:(Z1 b t).c9.length=12:=BB b 12;have H4:(Z1 b t).mask<4294967296:=M7 b 0 4;have Mp:(Z1 b t).name.length<=28:=by
      show((b.drop 28).take t).length<=28;rw[cV];omega
     subst lW;show Ok Q (bj [DV.agg _] _ s);rw[de];simp only[bO,av];rw[bD hlen];simp only[aq];rw[p9];refine Ok.call (Zpa n (Z1 b t) s AF H4 (by omega) (by omega)) ?_;rintro _ ⟨s2,rfl,aV⟩;refine⟨_,s2,rfl,?_⟩;simp only[au,aq];rw[Za];cases hr:mo (Z1 b t)with
     |false=>
      rw[hr,fP,af]at cX;rw[bm,ae];simp only[au,aq];rw[ae];exact bad s2 (aH.trans aV) cX
     |true=>
      rw[hr,dx]at cX;rw[bp,af];refine Ok.lT (Zlz n (Z1 b t) AF (by omega) s2 (by omega)) ?_;rintro _ ⟨s3,rfl,ck⟩;refine⟨_,s3,rfl,ck,?_⟩;simp only[bO,aq];have rl: ∀(K:ah->M ah),dw p 64 K s3=K (bZ l) s3:=λK=>by
       have:=jf (show Sl _ _ (bZ l)from fH.mono (aV.trans ck)) K;rwa [Zt,hl]at this
      rw[rl,<-ly,nK];simp only[au,aq];cases cL:(xF (Z1 b t)==l)with
      |false=>
       rw[cL]at cX;rw[bm,ae];exact bad s3 (aH.trans (aV.trans ck)) cX
      |true=>
       rw[cL,ae]at cX;rw[bp,af,bD (by rw[<-p9];simp[hlen]),Zd,<-hQ];refine .mk ⟨s3,aH.trans (aV.trans ck),?_⟩;rw[cX];exact⟨rfl,AF⟩
   .rw[aw (show(t:Int)>28 by omega),ae]
    refine bad s1 aH ?_;unfold ZF;rw[ho];grind
  .rw[aD hk,bm,ae]
   simp_all[ZF]
def rh:ak:=List.replicate 16 0
def gv (img:aj) (k:Int):Option (ak):=if k=0 then some rh else match iU img k with
 |none=>none
 |some l=>Z3 l
def jL (img:aj) (k:Int):Option (List bw):=if k=0 then some mJ else match iU img k with
 |none=>none
 |some l=>ZJ l
theorem GK (img:aj) (k:Int):((gv img k).getD rh).length=16:=by
 unfold gv;by_cases h:k=0
 .rw[bG h];rfl
 .rw[ba h]
  cases hl:iU img k with
  |none=>rfl
  |some l=>
   simp only;cases hg:Z3 l with
   |none=>rfl
   |some f=>exact Qp hg
theorem Kl (img:aj) (k:Int):((jL img k).getD mJ).length=7:=by
 unfold jL;by_cases h:k=0
 .rw[bG h];rfl
 .rw[ba h]
  cases hl:iU img k with
  |none=>rfl
  |some l=>
   simp only;cases hg:ZJ l with
   |none=>rfl
   |some f=>exact Gk hg
theorem Zw (l:ak):(ints l).length=l.length:=by simp[ints]
theorem ZuD:(ints rh:ah)=List.replicate 16 (.int .i64 0):=rfl
theorem JI (n:Nat) (img:aj) (k:Int) (st:St) (hl:img.length<1000000) (hn:600<=n:=by omega):
  Ok (λo=>∃s',o=(.val [.agg (ints ((gv img k).getD rh)),.bool (gv img k).isSome],s')/\aC st s') (run Bd n 289 [.str img,.int .i64 k] st):=by
 obtain⟨n,rfl⟩: ∃m,n=m+2:=⟨n-2,by omega⟩;rw[Ze,h.acK];unfold P1 oG oC iu eH bE;simp only[bO,av,aq];rw[<-ZuD];by_cases h0:k=0
 .have e:gv img k=some rh:=by grind[gv]
  rw[h0,Bo,ae,Zd,<-h0,e];exact .mk ⟨st,rfl,.refl _⟩
 .have e:gv img k=(match iU img k with|none=>none|some l=>Z3 l):=by grind[gv]
  rw[dX.2 h0,af];refine Ok.call (DA n img k st hl) ?_;rintro o ⟨s1,aH,ho⟩;rw[e];cases mF:iU img k with
  |none=>
   rw[mF]at ho;simp only at ho;subst ho;refine⟨_,s1,rfl,?_⟩;simp only[Zf 1 0 none _ (.inr rfl),au,aq];rw[bm,ae,Zd];exact .mk ⟨s1,rfl,aH⟩
  |some l=>
   rw[mF]at ho;obtain⟨p,rfl,hf,p7⟩:=ho;refine⟨_,s1,rfl,?_⟩;simp only[bd,au,aq];rw[bp,af];refine Ok.call (ZnL (n+1) p l s1 hf.1 p7 (by omega)) ?_;rintro o ⟨s2,aV,ho⟩;cases hg:Z3 l with
   |none=>
    rw[hg]at ho;simp only at ho;subst ho;refine⟨_,s2,rfl,?_⟩;show Ok _ (bj [.agg (ints rh),.bool false] _ s2);rw[de];simp only[au,aq];rw[bD (by rw[Zw];rfl),bD (by rw[Zw];rfl),Zd];exact .mk ⟨s2,rfl,aH.trans aV⟩
   |some f=>
    rw[hg]at ho;obtain⟨rfl,ew⟩:=ho;refine⟨_,s2,rfl,?_⟩;rw[de];simp only[au,aq];rw[bD (by rw[Zw];exact ew),bD (by rw[Zw];exact ew),Zd];exact .mk ⟨s2,rfl,aH.trans aV⟩
theorem ZkD (n:Nat) (img:aj) (k:Int) (st:St) (hl:img.length<1000000) (hn:600<=n:=by omega):
  Ok (λo=>∃s',o=(.val [.agg (bP ((jL img k).getD mJ)),.bool (jL img k).isSome],s')/\aC st s') (run Bd n 290 [.str img,.int .i64 k] st):=by
 obtain⟨n,rfl⟩: ∃m,n=m+2:=⟨n-2,by omega⟩;rw[Ze,h.acL];unfold Px oG oC iu ZE eH bE;simp only[bO,av,aq];rw[<-Zpl];have MT: ∀ {f:List bw},f.length=7->(bP f).length=21:=λhf=>by rw[Zx,hf]
 by_cases h0:k=0
 .have e:jL img k=some mJ:=by grind[jL]
  rw[h0,Bo,ae,Zd,<-h0,e];exact .mk ⟨st,rfl,.refl _⟩
 .have e:jL img k=(match iU img k with|none=>none|some l=>ZJ l):=by grind[jL]
  rw[dX.2 h0,af];refine Ok.call (DA n img k st hl) ?_;rintro o ⟨s1,aH,ho⟩;rw[e];cases mF:iU img k with
  |none=>
   rw[mF]at ho;simp only at ho;subst ho;refine⟨_,s1,rfl,?_⟩;simp only[Zf 1 0 none _ (.inr rfl),au,aq];rw[bm,ae,Zd];exact .mk ⟨s1,rfl,aH⟩
  |some l=>
   rw[mF]at ho;obtain⟨p,rfl,hf,p7⟩:=ho;refine⟨_,s1,rfl,?_⟩;simp only[bd,au,aq];rw[bp,af];refine Ok.call (ZmN (n+1) p l s1 hf.1 p7 (by omega)) ?_;rintro o ⟨s2,aV,ho⟩;cases hg:ZJ l with
   |none=>
    rw[hg]at ho;simp only at ho;subst ho;refine⟨_,s2,rfl,?_⟩;rw[de];simp only[au,aq];rw[bD (MT rfl),bD (MT rfl),Zd];exact .mk ⟨s2,rfl,aH.trans aV⟩
   |some f=>
    rw[hg]at ho;obtain⟨rfl,ew⟩:=ho;refine⟨_,s2,rfl,?_⟩;rw[de];simp only[au,aq];rw[bD (MT ew),bD (MT ew),Zd];exact .mk ⟨s2,rfl,aH.trans aV⟩
def lA (img:aj) (top:Int) (slot:Nat):Option bw:=match gv img top with
 |none=>none
 |some f=>match gv img (f.getD (slot/112) 0)with
  |none=>none
  |some g=>match jL img (g.getD (slot/7%16) 0)with
   |none=>none
   |some l=>l[slot%7]?
theorem Rz {x:bw} (h:l[j]? =some x):((bP l).drop (j*3)).take 3=ee x:=by
 obtain⟨A,B,rfl,hA⟩: ∃A B,l=A++x::B/\A.length=j:=by
  obtain⟨hj,hx⟩:=eK.1 h;exact⟨l.take j,l.drop (j+1),by rw[<-hx];simp,by rw[cV];omega⟩
 have e:bP (A++x::B)=bP A++(ee x++bP B):=by rw[GD];rfl
 rw[e,List.drop_append_of_le_length (by rw[Zx,hA];omega),ke (by rw[Zx,hA];omega),iL];rfl
theorem xU {l:ak} (h:j<l.length:=by omega):(ints l)[j]? =some (.int .i64 (l.getD j 0)):=by
 rw[ZA h,dZ,cg h];rfl
theorem Zqi (n:Nat) (img:aj) (top:Int) (slot:Nat) (st:St) (hl:img.length<1000000) (hs:slot<1792) (hn:700<=n):
  Ok (λo=>∃s',o=(.val [.agg (ee ((lA img top slot).getD jg)),.bool (lA img top slot).isSome],s')/\aC st s') (run Bd n 267 [.str img,.int .i64 top,.int .i64 (slot:Int)] st):=by
 obtain⟨n,rfl⟩: ∃m,n=m+1:=⟨n-1,by omega⟩;rw[Ze,h.acw];unfold Pz gK iu az eH qN Lb;simp only[bO,av,aq];have aaO:ar ((slot:Int).tdiv 112)=((slot/112:Nat):Int):=by
  rw[show(slot:Int).tdiv 112=((slot/112:Nat):Int)from rfl];exact Zc
 have e7:ar ((slot:Int).tdiv 7)=((slot/7:Nat):Int):=by
  rw[show(slot:Int).tdiv 7=((slot/7:Nat):Int)from rfl];exact Zc
 have TL:((slot/7:Nat):Int).tmod 16=((slot/7%16:Nat):Int):=rfl;have em7:(slot:Int).tmod 7=((slot%7:Nat):Int):=rfl;refine Ok.call (JI n img top st hl) ?_;rintro _ ⟨s1,rfl,aH⟩;refine⟨_,s1,rfl,?_⟩;have ew:=GK img top;obtain⟨f,hf⟩: ∃f,(gv img top).getD rh=f:=⟨_,rfl⟩;rw[hf]at ew⊢;rw[de];simp only[au,aq];rw[bD (by rw[Zw];exact ew),bD (by rw[Zw];exact ew),aaO,e7,TL,em7];simp only[br,cT];rw[Zb (show aP ((slot/112:Nat):Int) 16=true from Zi),gW (xU)];simp only[aX];refine Ok.call (JI n img (f.getD (slot/112) 0) s1 hl) ?_;rintro _ ⟨s2,rfl,aV⟩;refine⟨_,s2,rfl,?_⟩;have lC:=GK img (f.getD (slot/112) 0);obtain⟨g,hg⟩: ∃g,(gv img (f.getD (slot/112) 0)).getD rh=g:=⟨_,rfl⟩;rw[hg]at lC⊢;rw[de];simp only[au,aq];rw[bD (by rw[Zw];exact lC),bD (by rw[Zw];exact lC),Za];have bad:lA img top slot=none->Ok (λo=>∃s',o=(.val [.agg (ee ((lA img top slot).getD jg)),.bool (lA img top slot).isSome],s')/\aC st s') ((ay [.agg [.bool false,.int .i64 0,.int .i64 0],.bool false]:M ah) s2):=λhn=>by
  rw[hn,Zd];exact .mk ⟨s2,rfl,aH.trans aV⟩
 cases hF:gv img top with
 |none=>
  rw[show(!(none:Option (ak)).isSome)=true from rfl,ae];simp only[au,aq];rw[ae];refine bad ?_;unfold lA;rw[hF]
 |some f'=>
  have Uu:f'=f:=by rw[<-hf,hF];rfl
  subst Uu;rw[show(!(some f').isSome)=false from rfl,af];simp only[au,aq];cases hG:gv img (f'.getD (slot/112) 0)with
  |none=>
   rw[show(!(none:Option (ak)).isSome)=true from rfl,ae];refine bad ?_;unfold lA;rw[hF];simp only;rw[hG]
  |some g'=>
   have vu:g'=g:=by rw[<-hg,hG];rfl
   subst vu;rw[show(!(some g').isSome)=false from rfl,af,Zb (show aP ((slot/7%16:Nat):Int) 16=true from Zi),gW (xU)];simp only[aX];refine Ok.call (ZkD n img (g'.getD (slot/7%16) 0) s2 hl) ?_;rintro _ ⟨s3,rfl,ck⟩;refine⟨_,s3,rfl,?_⟩;have gS:=Kl img (g'.getD (slot/7%16) 0);obtain⟨l,EY⟩: ∃l,(jL img (g'.getD (slot/7%16) 0)).getD mJ=l:=⟨_,rfl⟩;rw[EY]at gS⊢;have hx:l[slot%7]? =some (l[slot%7]'(by omega)):=by grind
   have Uj:=Rz hx;rw[de];simp only[au,aq];rw[bD (by rw[Zx,gS]),bD (by rw[Zx,gS]),Zb (show aP ((slot%7:Nat):Int) 7=true from Zi),Zb (gr (by omega)),Uj,bD (show(ee _).length=3 from rfl),Zd];refine .mk ⟨s3,?_,aH.trans (aV.trans ck)⟩;have EP:lA img top slot=(match jL img (g'.getD (slot/7%16) 0)with|none=>none|some l=>l[slot%7]?):=by
    unfold lA;rw[hF];grind
   rw[EP];cases hL:jL img (g'.getD (slot/7%16) 0)with
   |none=>
    have AL:l=mJ:=by rw[<-EY,hL];rfl
    have h0:l[slot%7]'(by omega)=jg:=by
     subst AL;exact List.eq_of_mem_replicate (jP _)
    rw[h0];rfl
   |some l'=>
    grind
def cn (acc:ak) (k:Int):ak:=bif k==0 then acc else acc++[k]
def lR (img:aj):ak->ak->Option (ak)
 |acc,[]=>some acc
 |acc,k::r=>match jL img k with
  |none=>none
  |some _=>lR img (cn acc k) r
def nR (img:aj):ak->ak->Option (ak)
 |acc,[]=>some acc
 |acc,k::r=>match gv img k with
  |none=>none
  |some g=>match lR img (cn acc k) g with
   |none=>none
   |some pS=>nR img pS r
def wL (img:aj) (top:Int):Option (ak):=match gv img top with
 |none=>none
 |some f=>nR img (cn [] top) f
def Jv (st:St) (R:Option (ak)) (o:Out ah×St):Prop:=∃s',aC st s'/\match R with
 |none=>o=(.val [.slice 0 none 0,.bool false],s')
 |some l=>∃p,o=(.val [.slice 1 p l.length,.bool true],s')/\Sl s' p (ints l)
theorem Zrj (acc:ak) (k:Int):(cn acc k).length<=acc.length+1:=by
 grind[cn]
theorem Ky (l:ak) (k:Int):ints (l++[k])=ints l++[.int .i64 k]:=by simp[ints]
theorem Hc {l:ak} (h:i<l.length:=by omega):l.drop i=l.getD i 0::l.drop (i+1):=by
 rw[iC h,dZ,cg h];rfl
theorem Zo3 (n:Nat) (img:aj) (top:Int) (st:St) (hl:img.length<1000000) (hn:700<=n):
  Ok (Jv st (wL img top)) (run Bd n 265 [.str img,.int .i64 top] st):=by
 obtain⟨n,rfl⟩: ∃m,n=m+1:=⟨n-1,by omega⟩;rw[Ze,h.acu];unfold O6 oG iu fX lu eH tt eU bE Li;simp only[bO,av,aq,kl];refine Ok.call (JI n img top st hl) ?_;rintro _ ⟨s1,rfl,aH⟩;refine⟨_,s1,rfl,?_⟩;have ew:=GK img top;obtain⟨f,hf⟩: ∃f,(gv img top).getD rh=f:=⟨_,rfl⟩;rw[hf]at ew⊢;rw[de];simp only[au,aq];rw[bD (by rw[Zw];exact ew),bD (by rw[Zw];exact ew)];obtain⟨R,hR⟩: ∃R,wL img top=R:=⟨_,rfl⟩;rw[hR];have bad: ∀s',aC st s'->R=none->Ok (Jv st R) ((cu st.length [.slice 0 none 0,.bool false]:M ah) s'):=λs' hp hn=>by
  rw[hn,Zu];exact .mk ⟨_,Zv hp,rfl⟩
 cases hF:gv img top with
 |none=>
  rw[show(!(none:Option (ak)).isSome)=true from rfl,ae];grind[wL]
 |some f'=>
  have Uu:f'=f:=by rw[<-hf,hF];rfl
  subst Uu;have hRf:R=nR img (cn [] top) f':=by
   rw[<-hR];grind[wL]
  rw[show(!(some f').isSome)=false from rfl,af];refine Ok.join λaA qd=>?_
  have go: ∀(z:Nat) (p:ai) (s2:St),(z=1\/p=none)->bn st s2 p (ints (cn [] top))->Ok (Jv st R) (aA [.slice z p (cn [] top).length] s2):=λz p s2 hz ho=>by
   subst qd;simp only[Zf 1 z p _ hz,aq];refine Ok.join λaI jY=>?_
   refine Zj _ (λq y t=>∃(i z:Nat) (p:ai) (out:ak),y=[.slice z p out.length,.int .i64 i]/\(z=1\/p=none)/\i<=16/\16-i<=q/\bn st t p (ints out)/\out.length<=1+17*i/\R=nR img out (f'.drop i)) ?_ 16 n _ _ ⟨0,1,p,cn [] top,rfl,.inl rfl,by omega,by omega,ho,by have:=Zrj [] top;simp at this;omega,by rw[dA];exact hRf⟩ (by omega);rintro q y t ⟨i,z,p,out,rfl,hz,hi,hq,ho,iG,vk⟩ rec aQ;simp only[Zf 1 z p _ hz,av,aq];have jX: ∀l:ak,(ints l).length=l.length*1:=λl=>by rw[Zw,cT]
   by_cases ax:i<16
   .have fE:=Hc (l:=f') (i:=i)
    obtain⟨k,hk⟩: ∃k,f'.getD i 0=k:=⟨_,rfl⟩;rw[hk]at fE;have uf:(ints f')[i]? =some (.int .i64 k):=by rw[<-hk];exact xU
    rw[aw (show(i:Int)<16 by omega),ae];refine Ok.join λaR lW=>?_
    rw[Zb (show aP (i:Int) 16=true from Zi ax)];simp only[br,cT];rw[gW uf];simp only[aX];refine Ok.call (JI n img k t hl) ?_;rintro _ ⟨t1,rfl,aV⟩;refine⟨_,t1,rfl,?_⟩;have lC:=GK img k;obtain⟨g,hg⟩: ∃g,(gv img k).getD rh=g:=⟨_,rfl⟩;rw[hg]at lC⊢;rw[de];simp only[au,aq];rw[bD (by rw[Zw];exact lC),bD (by rw[Zw];exact lC)];have qh:=ho.mono aV;rw[fE]at vk;cases hG:gv img k with
    |none=>
     rw[show(!(none:Option (ak)).isSome)=true from rfl,ae];refine bad t1 qh.1 ?_;rw[vk];unfold nR;rw[hG]
    |some g'=>
     have vu:g'=g:=by rw[<-hg,hG];rfl
     subst vu;have T8:R=(match lR img (cn out k) g' with|none=>none|some pS=>nR img pS (f'.drop (i+1))):=by
      rw[vk]
      conv=>lhs;unfold nR
      rw[hG]
     rw[show(!(some g').isSome)=false from rfl,af,Zb (show aP (i:Int) 16=true from Zi ax),gW uf];simp only[aX];refine Ok.join λbz AJ=>?_
     have TQ: ∀(z:Nat) (p:ai) (s2:St),(z=1\/p=none)->bn st s2 p (ints (cn out k))->Ok (Jv st R) (bz [.slice z p (cn out k).length] s2):=λz p s2 hz ho=>by
      subst AJ;simp only[Zf 1 z p _ hz,aq];refine Ok.join λca AK=>?_
      have kW:=Zrj out k;refine Zj _ (λq y t=>∃(j z:Nat) (p:ai) (o:ak),y=[.slice z p o.length,.int .i64 j]/\(z=1\/p=none)/\j<=16/\16-j<=q/\bn st t p (ints o)/\o.length<=2+17*i+j/\lR img (cn out k) g'=lR img o (g'.drop j)) ?_ 16 n _ _ ⟨0,1,p,cn out k,rfl,.inl rfl,by omega,by omega,ho,by omega,rfl⟩ (by omega);rintro q2 y2 u ⟨j,z2,p2,o2,rfl,gy,hj,CF,df,Fa,HC⟩ dt j4;simp only[Zf 1 z2 p2 _ gy,av,aq];by_cases jZ:j<16
      .have Xx:=Hc (l:=g') (i:=j)
       obtain⟨w,hw⟩: ∃w,g'.getD j 0=w:=⟨_,rfl⟩;rw[hw]at Xx;have qc:(ints g')[j]? =some (.int .i64 w):=by rw[<-hw];exact xU
       rw[aw (show(j:Int)<16 by omega),ae,Zb (show aP (j:Int) 16=true from Zi jZ)];simp only[br,cT];rw[gW qc];simp only[aX];refine Ok.call (ZkD n img w u hl) ?_;rintro _ ⟨u1,rfl,ck⟩;refine⟨_,u1,rfl,?_⟩;have gS:=Kl img w;rw[de];simp only[au,aq];rw[bD (by rw[Zx,gS]),bD (by rw[Zx,gS])];have mG:=df.mono ck;rw[Xx]at HC;cases hL:jL img w with
       |none=>
        rw[show(!(none:Option (List bw)).isSome)=true from rfl,ae];refine bad u1 mG.1 ?_;rw[T8,HC];unfold lR;rw[hL]
       |some l=>
        have LP:lR img (cn out k) g'=lR img (cn o2 w) (g'.drop (j+1)):=by
         rw[HC]
         conv=>lhs;unfold lR
         rw[hL]
        rw[show(!(some l).isSome)=false from rfl,af,Zb (show aP (j:Int) 16=true from Zi jZ),gW qc];simp only[aX];rw[Za];by_cases Fo:w=0
        .have oo:cn o2 w=o2:=by unfold cn;rw[Fo];rfl
         rw[oo]at LP;rw[Fo,show(!((0:Int)==0))=false from rfl,af];simp only[bd,aq];rw[Zc];exact j4 (16-(j+1)) _ _ (by omega) ⟨j+1,1,p2,o2,rfl,.inl rfl,by omega,aO _,mG,by omega,LP⟩
        .have oo:cn o2 w=o2++[w]:=by unfold cn;rw[dX.2 Fo];rfl
         rw[oo]at LP;rw[dX.2 Fo,bm,ae,Zb (show aP (j:Int) 16=true from Zi jZ),gW qc];simp only[aX];obtain⟨p4,u4,rC,HL⟩:=mG.push (β:=ah) (sz:=1) (n:=o2.length) (lim:=8796093022208) [.int .i64 w] (by omega) (jX o2) rfl (by omega);rw[HL];simp only[bd,aq];rw[Zc];rw[<-Ky]at rC;exact j4 (16-(j+1)) _ _ (by omega) ⟨j+1,1,p4,o2++[w],by rw[bA,iK];rfl,.inl rfl,by omega,aO _,rC,by rw[bA,iK];omega,LP⟩
      .rw[aD (show ¬(j:Int)<16 by omega),af,AK]
       simp only[bd,aq];rw[lW];simp only[bd,aq];rw[Zc];rw[ke (by omega)]at HC;rw[HC]at T8;exact aQ (16-(i+1)) _ _ (by omega) ⟨i+1,1,p2,o2,rfl,.inl rfl,by omega,aO _,df,by omega,T8⟩
     by_cases lD:k=0
     .have oo:cn out k=out:=by unfold cn;rw[lD];rfl
      rw[oo]at TQ;rw[lD,show(!((0:Int)==0))=false from rfl,af];grind
     .have oo:cn out k=out++[k]:=by unfold cn;rw[dX.2 lD];rfl
      rw[oo]at TQ;rw[dX.2 lD,bm,ae,Zb (show aP (i:Int) 16=true from Zi ax),gW uf];simp only[aX];obtain⟨p4,u4,rC,HL⟩:=qh.push (β:=ah) (sz:=1) (n:=out.length) (lim:=8796093022208) [.int .i64 k] (by omega) (jX out) rfl (by omega);rw[HL];rw[<-Ky]at rC;have:=TQ 1 p4 u4 (.inl rfl) rC;rwa [bA,iK]at this
   .rw[aD (show ¬(i:Int)<16 by omega),af,jY]
    simp only[bd,aq,Zu];rw[ke (by omega)]at vk;refine .mk ⟨_,Zv ho.1,?_⟩;rw[vk];exact⟨p,rfl,ho.sl.fK _⟩
  by_cases Fm:top=0
  .have oo:cn [] top=[]:=by unfold cn;rw[Fm];rfl
   rw[oo]at go;rw[Fm,show(!((0:Int)==0))=false from rfl,af];exact go 0 none s1 (.inr rfl) (.nil aH)
  .have oo:cn [] top=[top]:=by unfold cn;rw[dX.2 Fm];rfl
   rw[oo]at go;rw[dX.2 Fm,bm,ae];obtain⟨p4,u4,rC,HL⟩:=(bn.nil aH).push (β:=ah) (sz:=1) (n:=0) (lim:=8796093022208) [.int .i64 top] (by omega) rfl rfl (by omega);rw[HL];exact go 1 p4 u4 (.inl rfl) rC
def sZ (img:aj) (k:Int):Option jj:=match iU img k with
 |none=>none
 |some l=>iD l
theorem Zqq (n:Nat) (img:aj) (k:Int) (st:St) (hl:img.length<1000000) (hn:3002<=n):
  Ok (λo=>∃s',aC st s'/\match sZ img k with
   |none=>∃z,o=(.val [.agg [.int .i64 0,.int .i64 0,.int .i64 0,.int .i64 0,.slice z none 0],.bool false],s')
   |some x=>∃q,o=(.val [.agg (nA x 1 q),.bool true],s')/\Sl s' q (ints x.kids)) (run Bd n 294 [.str img,.int .i64 k] st):=by
 obtain⟨n,rfl⟩: ∃m,n=m+2:=⟨n-2,by omega⟩;rw[Ze,h.acP];unfold PD oG oC DG eH zD bE DL;simp only[bO,av,aq,kl];refine Ok.call (DA n img k st hl) ?_;rintro o ⟨s1,aH,ho⟩;unfold sZ;cases mF:iU img k with
 |none=>
  rw[mF]at ho;simp only at ho;subst ho;refine⟨_,s1,rfl,?_⟩;simp only[Zf 1 0 none _ (.inr rfl),au,aq];rw[bm,ae,Zu];exact .mk ⟨_,Zv aH,0,rfl⟩
 |some l=>
  rw[mF]at ho;obtain⟨p,rfl,hf,p7⟩:=ho;refine⟨_,s1,rfl,?_⟩;simp only[bd,au,aq];rw[bp,af];refine Ok.call (ZrW (n+1) p l s1 hf.1 p7 (by omega)) ?_;rintro o ⟨s2,aV,ho⟩;cases hg:iD l with
  |none=>
   rw[hg]at ho;simp only at ho;subst ho;refine⟨_,s2,rfl,?_⟩;rw[de];simp only[av,Zf 1 0 none _ (.inr rfl),au,aq];rw[Zu];exact .mk ⟨_,Zv (aH.trans aV),1,rfl⟩
  |some x=>
   rw[hg]at ho;obtain⟨q,rfl,hq⟩:=ho;refine⟨_,s2,rfl,?_⟩;rw[de];unfold nA eN;simp only[mU,iL,av,bd,au,aq];rw[Zu];exact .mk ⟨_,Zv (aH.trans aV),q,rfl,hq.1.fK _⟩
def jl (img:aj):Nat->ak->bc->Option (List bc×ak)
 |0,_,_=>some ([],[])
 |j+1,ks,e=>match jl img j ks e with
  |none=>none
  |some (es,bs)=>match sZ img (ks.getD j 0)with
   |none=>none
   |some m=>bif decide (m.kids.length=j)then(match jl img j m.kids m.bI with
    |none=>none
    |some (gR,gB)=>bif eY e m.bI then some (es++m.bI::gR,bs++ks.getD j 0::gB)else none)else none
def kF (img:aj) (d:Nat) (k:Int):Option (List bc×ak):=match sZ img k with
 |none=>none
 |some m=>bif decide (m.kids.length=d)then(match jl img d m.kids m.bI with
  |none=>none
  |some (es,bs)=>some (m.bI::es,k::bs))else none
theorem P9 (img:aj) (j:Nat) (ks:ak) (e:bc):jl img (j+1) ks e=(match jl img j ks e with
  |none=>none
  |some (es,bs)=>match kF img j (ks.getD j 0)with
   |none=>none
   |some (eQ,fI)=>bif eY e (eQ.headD ⟨0,0,0,0⟩)then some (es++eQ,bs++fI)else none):=by
 conv=>lhs;unfold jl
 cases jl img j ks e with
 |none=>rfl
 |some q=>
  grind[kF]
theorem Zmu {img:aj} {ks:ak} {e:bc} {i:Nat} (h:jl img i ks e=none): ∀d,i<=d->jl img d ks e=none
 |0,hd=>by
  grind
 |d+1,hd=>by
  by_cases hi:i=d+1
  .subst hi;exact h
  .rw[P9,Zmu h d (by omega)]
theorem Gp {img:aj} : ∀(j:Nat) (ks:ak) (e:bc) (es:List bc) (bs:ak),jl img j ks e=some (es,bs)->es.length+1=2^j/\bs.length=es.length
 |0,_,_,_,_,h=>by cases h;exact⟨rfl,rfl⟩
 |j+1,ks,e,es,bs,h=>by
  unfold jl at h;cases h1:jl img j ks e with
  |none=>rw[h1]at h;cases h
  |some q=>
   obtain⟨wU,wN⟩:=q;obtain⟨a1,a2⟩:=Gp j ks e wU wN h1;rw[h1]at h;simp only at h;cases h2:sZ img (ks.getD j 0)with
   |none=>rw[h2]at h;cases h
   |some m=>
    rw[h2]at h;simp only at h;cases h3:decide (m.kids.length=j)with
    |false=>rw[h3]at h;cases h
    |true=>
     rw[h3,ae]at h;cases h4:jl img j m.kids m.bI with
     |none=>rw[h4]at h;cases h
     |some q=>
      obtain⟨yo,uY⟩:=q;obtain⟨b1,b2⟩:=Gp j m.kids m.bI yo uY h4;rw[h4]at h;grind
theorem BD {k:Int} {bs:ak} (h:kF img d k=some (es,bs)):es.length=2^d/\bs.length=es.length:=by
 unfold kF at h;cases h2:sZ img k with
 |none=>rw[h2]at h;cases h
 |some m=>
  rw[h2]at h;simp only at h;cases h3:decide (m.kids.length=d)with
  |false=>rw[h3]at h;cases h
  |true=>
   rw[h3,ae]at h;cases h4:jl img d m.kids m.bI with
   |none=>rw[h4]at h;cases h
   |some q=>
    obtain⟨yo,uY⟩:=q;obtain⟨b1,b2⟩:=Gp d m.kids m.bI yo uY h4;rw[h4]at h;grind
def F3 (st:St) (R:Option (List bc×ak)) (o:Out ah×St):Prop:=∃s',aC st s'/\match R with
 |none=>o=(.val [.slice 0 none 0,.slice 0 none 0,.bool false],s')
 |some (es,bs)=>∃p q,o=(.val [.slice 4 p es.length,.slice 1 q bs.length,.bool true],s')/\Sl s' p (bK es)/\Sl s' q (ints bs)/\(∀b∈aM q,st.length<=b)/\∀b∈aM p,st.length<=b
theorem KK (l m:ak):ints (l++m)=ints l++ints m:=by simp[ints]
theorem bn.sK {a:ai} (h:bn s0 s a cs) {sz m:Nat} (hz:0<sz) (hn:cs.length=n*sz) (hd:ds.length=m*sz) (hl:n+m<=lim):
  ∃p s',bn s0 s' p (cs++ds)/\Fx (aM a) s s'/\(∀b∈aM p,b∈aM a\/s.length<=b)/\∀K:ai->M β,cj sz a n ds m lim K s=K p s':=by
 rcases zi m with rfl|hm
 .rw[qK]at hd
  rw[Bm.1 hd,gA];exact⟨a,s,h,⟨aO _,λ_ _ _ e=>e⟩,λb hb=> .inl hb,λK=>rfl⟩
 .have hb:Nat.beq m 0=false:=by cases m with|zero=>cases hm|succ m=>rfl
  rcases h.2 with⟨rfl,rfl⟩|⟨i,rfl,hi,hs⟩
  .have h0:n=0:=by
    rcases FR.1 (show n*sz=0 by simpa using hn.symm)with h|h
    .exact h
    .omega
   subst h0;refine⟨some (s.length,0),s++[some ⟨false,ds⟩],⟨h.1.trans (.new _ _),.inr ⟨s.length,rfl,h.1.len,by simp⟩⟩,⟨by simp,by grind⟩,λb hb=> .inr (by rw[cx.1 hb];exact aO _),λK=>?_⟩;unfold cj;simp only[hb,gr hl,ae,af];rfl
  .have eC:s.hY i=some cs:=by grind[St.hY]
   refine⟨some (s.length,0),s.set i none++[some ⟨false,cs++ds⟩],⟨(zU h.1 hi none).trans (.new _ _),(by grind)⟩,⟨by simp,λb x hbn e=>?_⟩,λb hb=> .inr (by rw[cx.1 hb];exact aO _),λK=>?_⟩
   .have hbi:i≠b:=λe=>hbn (by rw[<-e];exact cx.2 rfl)
    grind
   .unfold cj
    simp only[hb,gr hl,ae,af,eC];rw[eW,gr (by omega)];grind
theorem bn.wX {a:ai} (h:bn s0 s a cs) (k:Fx T s s') (hn: ∀b∈aM a,b∉T) (hp:aC s0 s'):bn s0 s' a cs:=by
 rcases h.2 with⟨rfl,rfl⟩|⟨i,rfl,hi,hs⟩
 .exact⟨hp,.inl ⟨rfl,rfl⟩⟩
 .exact⟨hp,.inr ⟨i,rfl,hi,k.2 i _ (hn i (cx.2 rfl)) hs⟩⟩
theorem bn.oq {a:ai} (h:bn s0 s a cs): ∀b∈aM a,b<s.length:=λb hb=>by
 rcases h.2 with⟨rfl,rfl⟩|⟨i,rfl,hi,hs⟩
 .cases hb
 .rw[cx.1 hb]
  grind
theorem bn.Hv {a:ai} (h:bn s0 s a cs): ∀b∈aM a,s0.length<=b:=λb hb=>by
 rcases h.2 with⟨rfl,rfl⟩|⟨i,rfl,hi,hs⟩
 .cases hb
 .rw[cx.1 hb]
  exact hi
theorem xW {a:ai} (h: ∀b∈aM a,b∉T):lr T a:=λb o e=>h b (by rw[e];exact cx.2 rfl)
theorem Sl.oq {a:ai} (h:Sl s a cs): ∀b∈aM a,b<s.length:=λb hb=>by
 cases a with
 |none=>cases hb
 |some x=>
  obtain⟨i,o⟩:=x;rw[cx.1 hb];exact h.lt
theorem Zqp (img:aj) (hl:img.length<1000000): ∀(d:Nat),d<=12->∀(n:Nat) (k:Int) (st:St),3100+d<=n->Ok (F3 st (kF img d k)) (run Bd n 271 [.str img,.int .i64 k,.int .i64 (d:Int)] st):=by
 intro d;induction d using Nat.strongRecOn with
 |_ d ih=>
 intro hd n k st hn;obtain⟨n,rfl⟩: ∃m,n=m+1:=⟨n-1,by omega⟩;rw[Ze,h.acA];unfold PK gK DG az cm qV Zn D6 oJ aY eH qQ zm Li xR Lb zw;simp only[bO,av,aq,kl];refine Ok.call (Zqq n img k st hl (by omega)) ?_;rintro o ⟨s1,aH,ho⟩;obtain⟨R,hR⟩: ∃R,kF img d k=R:=⟨_,rfl⟩;rw[hR];have bad: ∀s',aC st s'->R=none->Ok (F3 st R) ((cu st.length [.slice 0 none 0,.slice 0 none 0,.bool false]:M ah) s'):=λs' hp hn=>by
  rw[hn,Zu];exact .mk ⟨_,Zv hp,rfl⟩
 unfold kF at hR;cases hN:sZ img k with
 |none=>
  rw[hN]at ho hR;obtain⟨z,rfl⟩:=ho;refine⟨_,s1,rfl,?_⟩;rw[de];simp only[av,Zf 1 z none _ (.inr rfl),au,aq];rw[Za,bm,ae];simp only[au,aq];rw[ae];exact bad s1 aH hR.symm
 |some m=>
  rw[hN]at ho hR;obtain⟨q,rfl,hq⟩:=ho;simp only at hR;refine⟨_,s1,rfl,?_⟩;rw[de];unfold nA eN;simp only[mU,iL,av,bd,au,aq];rw[Za,bp,af,nf m.kids.length d (d:Int) rfl];simp only[au,aq];by_cases Mg:m.kids.length=d
  .rw[aw Mg,ae]at hR
   rw[aw Mg,bp,af,Zz,Zz];obtain⟨s2,kC⟩: ∃s2,s1++[some (⟨false,[.int .i64 m.bI.slot,.int .i64 m.bI.gen,.int .i64 m.bI.key,.int .i64 m.bI.value]⟩:bT)]=s2:=⟨_,rfl⟩;obtain⟨s3,vB⟩: ∃s3,s2++[some (⟨false,[.int .i64 k]⟩:bT)]=s3:=⟨_,rfl⟩;have aV:aC s1 s2:=by rw[<-kC];exact .new _ _
   have ck:aC s2 s3:=by rw[<-vB];exact .new _ _
   have rD:bn st s3 (some (s1.length,0)) (bK [m.bI]):=⟨aH.trans (aV.trans ck),.inr ⟨s1.length,rfl,aH.len,ck.get (by rw[<-kC];simp[bK,eN])⟩⟩;have uk:bn st s3 (some (s2.length,0)) (ints [k]):=⟨aH.trans (aV.trans ck),.inr ⟨s2.length,rfl,by have:=aH.len;have:=aV.len;omega,by rw[<-vB];simp[ints]⟩⟩;rw[kC,vB];have dI:s1.length<s2.length:=by rw[<-kC];simp
   refine Ok.join λaI jY=>?_
   refine Zj _ (λc y t=>∃(i:Nat) (pe pb:ai) (es:List bc) (bs:ak),y=[.slice 4 pe (es.length+1),.slice 1 pb (bs.length+1),.int .i64 (i:Int)]/\i<=d/\d-i<=c/\jl img i m.kids m.bI=some (es,bs)/\bn st t pe (bK (m.bI::es))/\bn st t pb (ints (k::bs))/\(∀b∈aM pe,s1.length<=b/\b∉aM pb)/\(∀b∈aM pb,s1.length<=b)/\Sl t q (ints m.kids)/\s1.length<=t.length) ?_ d n _ _ ⟨0,some (s1.length,0),some (s2.length,0),[],[],rfl,cE _,by omega,rfl,rD,uk,λb hb=>⟨by rw[cx.1 hb];exact aO _,by rw[cx.1 hb];intro e;have:=cx.1 e;omega⟩,λb hb=>by rw[cx.1 hb];omega,(hq.mono aV).mono ck,by have:=aV.len;have:=ck.len;omega⟩ (by omega);have yH:=hq.oq;rintro c y t ⟨i,pe,pb,es,bs,rfl,hi,hc,hT,rD,uk,My,Ff,AR,dN⟩ rec aQ;simp only[bd,av,aq];have hlen:=Gp i m.kids m.bI es bs hT;have sX:2^i<=2^12:=mX (by decide) (by omega);by_cases ax:i<d
   .obtain⟨w,hw⟩: ∃w,m.kids.getD i 0=w:=⟨_,rfl⟩
    have qc:(ints m.kids)[i]? =some (.int .i64 w):=by rw[<-hw];exact xU
    obtain⟨i1,o1,rfl⟩:=AR.cB (by rw[Zw];omega);rw[aw (show(i:Int)<(d:Int) by omega),ae,aZ,Zb (Zi)];simp only[br];rw[AR.dF qc];simp only[aX];have qk:=P9 img i m.kids m.bI;rw[hT,hw]at qk;simp only at qk;refine Ok.call (ih i ax (by omega) n w t (by omega)) ?_;rintro o ⟨t1,je,ho⟩;have Ic:=rD.mono je;have UX:=uk.mono je;have fail:jl img (i+1) m.kids m.bI=none->Ok (F3 st R) ((cu st.length [.slice 0 none 0,.slice 0 none 0,.bool false]:M ah) t1):=λhf=>by
     refine bad t1 Ic.1 ?_;rw[<-hR,Zmu hf d (by omega)]
    cases hS:kF img i w with
    |none=>
     rw[hS]at ho qk;simp only at ho;subst ho;refine⟨_,t1,rfl,?_⟩;simp only[Zf 4 0 none _ (.inr rfl),Zf 1 0 none _ (.inr rfl),au,aq];rw[Za,bm,ae];simp only[au,aq];rw[ae];exact fail qk
    |some qq=>
     obtain⟨eQ,fI⟩:=qq;rw[hS]at ho qk;obtain⟨px,py,rfl,Ij,Vd,Vf,_⟩:=ho;refine⟨_,t1,rfl,?_⟩;have gE:=BD hS;obtain⟨e0,yR,rfl⟩: ∃e0 yR,eQ=e0::yR:=by
      cases eQ with
      |nil=>have:=gE.1;rw[Dh]at this;omega
      |cons a b=>exact⟨a,b,rfl⟩
     simp only[bd,au,aq];rw[Za,bp,af];obtain⟨i4,o4,rfl⟩:=Ij.cB (by rw[Zq,cO];omega);rw[aZ,Zb (show aP 0 (e0::yR).length=true from Zi (i:=0) (by simp)),Ij.wY (k:=0) (n:=4) (by rw[Zq,cO];omega)];show Ok _ (aF .i64 (eN e0) _ t1);unfold eN;simp only[av,aq];have EI:=Oy (n-1) m.bI e0 t1;rw[show n-1+1=n by omega]at EI;unfold eN at EI;rw[Zk EI];simp only[au,aq];simp only[List.headD_cons]at qk;cases hA:eY m.bI e0 with
     |false=>
      rw[hA,af]at qk;rw[bm,ae];exact fail qk
     |true=>
      rw[hA,ae]at qk;rw[bp,af];have r1: ∀K:ah->M ah,dw (some (i4,o4)) ((e0::yR).length*4) K t1=K (bK (e0::yR)) t1:=λK=>by
       have:=jf Ij K;rwa [Zq]at this
      rw[r1];obtain⟨p5,t5,oX,lV,Cl,HM⟩:=Ic.sK (β:=ah) (sz:=4) (n:=es.length+1) (m:=(e0::yR).length) (lim:=2199023255552) (ds:=bK (e0::yR)) (by omega) (by rw[Zq];rfl) (by rw[Zq]) (by omega);rw[HM];have vE:=je.len;have U6:=rD.oq;have aex:=uk.oq;have Ve:Sl t5 py (ints fI):=Vd.fx lV (xW λb hb cU=>by have:=Vf b hb;have:=U6 b cU;omega);have r2: ∀K:ah->M ah,dw py (fI.length*1) K t5=K (ints fI) t5:=λK=>by
       have:=jf Ve K;rwa [Zw,<-cT fI.length]at this
      rw[r2];have UY:bn st t5 pb (ints (k::bs)):=UX.wX lV (by grind) oX.1;obtain⟨p6,t6,lE,qb,w8,sT⟩:=UY.sK (β:=ah) (sz:=1) (n:=bs.length+1) (m:=fI.length) (lim:=8796093022208) (ds:=ints fI) (by omega) (by rw[Zw,cT];rfl) (by rw[Zw,cT]) (by omega);rw[sT];have U3: ∀b∈aM p5,b∉aM pb:=λb hb cU=>by
       grind
      have Mq:bn st t6 p5 (bK (m.bI::es)++bK (e0::yR)):=oX.wX qb U3 lE.1;rw[Zc];refine aQ (d-(i+1)) _ _ (by omega) ⟨i+1,p5,p6,es++e0::yR,bs++fI,?_,by omega,aO _,qk,?_,?_,λb hb=>⟨?_,λcU=>?_⟩,λb hb=>?_,?_,by have:=lV.1;have:=qb.1;omega⟩
      .grind
      .rw[<-xT]at Mq;exact Mq
      .rw[<-KK]at lE;exact lE
      .rcases Cl b hb with h1|h1
       .exact(My b h1).1
       .omega
      .have h5l:=oX.oq b hb
       grind
      .rcases w8 b hb with h1|h1
       .exact Ff b h1
       .have:=lV.1;omega
      .exact((AR.mono je).fx lV (xW λb hb cU=>by have:=yH b hb;have:=(My b cU).1;omega)).fx qb (xW λb hb cU=>by have:=yH b hb;have:=Ff b cU;omega)
   .rw[aD (show ¬(i:Int)<(d:Int) by omega),af,jY]
    have hid:i=d:=by omega
    subst hid;rw[hT]at hR;simp only[bd,aq,Zu];refine .mk ⟨_,Zv rD.1,?_⟩;rw[<-hR];exact⟨pe,pb,rfl,rD.sl.fK _,uk.sl.fK _,uk.Hv,rD.Hv⟩
  .rw[aD Mg,af]at hR
   rw[aD Mg,bm,ae];exact bad s1 aH hR.symm
def Z4 (img:aj):Nat->ak->List bc->ak->Option (List bc×ak)
 |_,[],es,bs=>some (es,bs)
 |i,k::r,es,bs=>bif k==0 then Z4 img (i+1) r es bs else match kF img i k with
  |none=>none
  |some (eQ,fI)=>Z4 img (i+1) r (es++eQ) (bs++fI)
def tI (img:aj) (r:ak):Option (List bc×ak):=Z4 img 0 r [] []
theorem Zn0 (n:Nat) (img:aj) (r:ak) (st:St) (hl:img.length<1000000) (hr:r.length=12) (hn:3200<=n):
  Ok (F3 st (tI img r)) (run Bd n 246 [.str img,.agg (ints r)] st):=by
 obtain⟨n,rfl⟩: ∃m,n=m+1:=⟨n-1,by omega⟩;rw[Ze,h.aca];unfold Ow cm qV D6 xR qQ;simp only[bO];rw[de,bD (by rw[Zw];exact hr)];simp only[aq,kl];rw[bD (by rw[Zw];exact hr)];obtain⟨R,hR⟩: ∃R,tI img r=R:=⟨_,rfl⟩;rw[hR];have bad: ∀s',aC st s'->R=none->Ok (F3 st R) ((cu st.length [.slice 0 none 0,.slice 0 none 0,.bool false]:M ah) s'):=λs' hp hn=>by
  rw[hn,Zu];exact .mk ⟨_,Zv hp,rfl⟩
 refine Ok.join λaA qd=>?_
 refine Zj _ (λc y t=>∃(i z1 z2:Nat) (pe pb:ai) (es:List bc) (bs:ak),y=[.slice z1 pe es.length,.slice z2 pb bs.length,.int .i64 (i:Int)]/\(z1=4\/pe=none)/\(z2=1\/pb=none)/\i<=12/\12-i<=c/\R=Z4 img i (r.drop i) es bs/\bn st t pe (bK es)/\bn st t pb (ints bs)/\(∀b∈aM pe,b∉aM pb)/\es.length+1<=2^i/\bs.length=es.length) ?_ 12 n _ _ ⟨0,0,0,none,none,[],[],rfl,.inr rfl,.inr rfl,by omega,by omega,by rw[dA];exact hR.symm,.nil (.refl _),.nil (.refl _),λb hb=>(by cases hb),by simp,rfl⟩ (by omega);rintro c y t ⟨i,z1,z2,pe,pb,es,bs,rfl,hU,gy,hi,hc,vk,rD,uk,My,HN,ix⟩ rec aQ;simp only[Zf 4 z1 pe _ hU,Zf 1 z2 pb _ gy,av,aq];have sX:2^i<=2^12:=mX (by decide) (by omega);by_cases ax:i<12
 .have fE:=Hc (l:=r) (i:=i)
  obtain⟨k,hk⟩: ∃k,r.getD i 0=k:=⟨_,rfl⟩;rw[hk]at fE;have uf:(ints r)[i]? =some (.int .i64 k):=by rw[<-hk];exact xU
  rw[fE]at vk;rw[aw (show(i:Int)<12 by omega),ae,Za,Zb (show aP (i:Int) 12=true from Zi ax)];simp only[br,cT];rw[gW uf];simp only[aX];by_cases lD:k=0
  .have hR0:R=Z4 img (i+1) (r.drop (i+1)) es bs:=by
    rw[vk]
    conv=>lhs;unfold Z4
    rw[lD];rfl
   rw[lD,Bo,ae];simp only[bd,aq];rw[Zc];exact aQ (12-(i+1)) _ _ (by omega) ⟨i+1,4,1,pe,pb,es,bs,rfl,.inl rfl,.inl rfl,by omega,aO _,hR0,rD,uk,My,by omega,ix⟩
  .have yw:R=(match kF img i k with|none=>none|some (eQ,fI)=>Z4 img (i+1) (r.drop (i+1)) (es++eQ) (bs++fI)):=by
    rw[vk]
    conv=>lhs;unfold Z4
    rw[dX.2 lD];rfl
   rw[dX.2 lD,af,Zb (show aP (i:Int) 12=true from Zi ax),gW uf];simp only[aX];refine Ok.call (Zqp img hl i (by omega) n k t (by omega)) ?_;rintro o ⟨t1,je,ho⟩;have Ic:=rD.mono je;have UX:=uk.mono je;cases hS:kF img i k with
   |none=>
    rw[hS]at ho yw;simp only at ho;subst ho;refine⟨_,t1,rfl,?_⟩;simp only[Zf 4 0 none _ (.inr rfl),Zf 1 0 none _ (.inr rfl),au,aq];rw[bm,ae];exact bad t1 Ic.1 yw
   |some qq=>
    obtain⟨eQ,fI⟩:=qq;rw[hS]at ho yw;obtain⟨px,py,rfl,Ij,Vd,Vf,_⟩:=ho;refine⟨_,t1,rfl,?_⟩;have gE:=BD hS;simp only[bd,au,aq];rw[bp,af];have r1: ∀K:ah->M ah,dw px (eQ.length*4) K t1=K (bK eQ) t1:=λK=>by
     have:=jf Ij K;rwa [Zq]at this
    rw[r1];obtain⟨p5,t5,oX,lV,Cl,HM⟩:=Ic.sK (β:=ah) (sz:=4) (n:=es.length) (m:=eQ.length) (lim:=2199023255552) (ds:=bK eQ) (by omega) (by rw[Zq]) (by rw[Zq]) (by omega);rw[HM];have vE:=je.len;have U6:=rD.oq;have aex:=uk.oq;have Ve:Sl t5 py (ints fI):=Vd.fx lV (xW λb hb cU=>by have:=Vf b hb;have:=U6 b cU;omega);have r2: ∀K:ah->M ah,dw py fI.length K t5=K (ints fI) t5:=λK=>by
     have:=jf Ve K;rwa [Zw]at this
    rw[r2];have UY:bn st t5 pb (ints bs):=UX.wX lV (by grind) oX.1;obtain⟨p6,t6,lE,qb,w8,sT⟩:=UY.sK (β:=ah) (sz:=1) (n:=bs.length) (m:=fI.length) (lim:=8796093022208) (ds:=ints fI) (by omega) (by rw[Zw,cT]) (by rw[Zw,cT]) (by omega);rw[sT];have U3: ∀b∈aM p5,b∉aM pb:=λb hb cU=>by
     grind
    have Mq:bn st t6 p5 (bK es++bK eQ):=oX.wX qb U3 lE.1;rw[Zc];refine aQ (12-(i+1)) _ _ (by omega) ⟨i+1,4,1,p5,p6,es++eQ,bs++fI,?_,.inl rfl,.inl rfl,by omega,aO _,yw,?_,?_,λb hb cU=>?_,?_,?_⟩
    .rw[bA,bA]
     rfl
    .rw[xT];exact Mq
    .rw[KK];exact lE
    .have h5l:=oX.oq b hb
     grind
    .rw[bA];omega
    grind
 .rw[aD (show ¬(i:Int)<12 by omega),af,qd]
  rw[ke (by omega)]at vk;simp only[bd,aq,Zu];refine .mk ⟨_,Zv rD.1,?_⟩;rw[vk];exact⟨pe,pb,rfl,rD.sl.fK _,uk.sl.fK _,uk.Hv,rD.Hv⟩
def qw (e:bc) (out:List bc):Nat->Nat
 |0=>0
 |k+1=>bif eY e (out.getD k ⟨0,0,0,0⟩)then qw e out k else k+1
def pd (out:List bc) (e:bc):List bc:=out.take (qw e out out.length)++e::out.drop (qw e out out.length)
def Z0 (l:List bc):List bc:=l.foldl pd []
theorem Zs4 (e:bc) (out:List bc): ∀k,qw e out k<=k
 |0=>aO _
 |k+1=>by
  unfold qw;cases eY e (out.getD k ⟨0,0,0,0⟩)with
  |true=>exact Nat.le_succ_of_le (Zs4 e out k)
  |false=>exact aO _
theorem Sb (out:List bc) (e:bc):(pd out e).length=out.length+1:=by
 grind[pd]
theorem Zve (e:bc):bK [e]=eN e:=by unfold bK;simp
theorem Zt2 (l:List bc) (k:Nat):bK (l.take k)=(bK l).take (k*4):=by
 rcases Nat.le_total k l.length with h|h
 .have h2:=xT (l.take k) (l.drop k)
  rw[oA]at h2;have h3:(bK (l.take k)).length=k*4:=by rw[Zq,cV];omega
  rw[h2,<-h3];simp
 .rw[dH h,dH (by rw[Zq];omega)]
theorem ZtJ (l:List bc) (k:Nat):bK (l.drop k)=(bK l).drop (k*4):=by
 rcases Nat.le_total k l.length with h|h
 .have h2:=xT (l.take k) (l.drop k)
  rw[oA]at h2;have h3:(bK (l.take k)).length=k*4:=by rw[Zq,cV];omega
  rw[h2,<-h3];simp
 .rw[ke h,ke (by rw[Zq];omega)]
  rfl
theorem ZnA (n:Nat) (l:List bc) (z:Nat) (p:ai) (st:St) (hz:z=4\/p=none) (hs:Sl st p (bK l)) (hl:l.length<100000) (hn:l.length+10<=n):
  Ok (λo=>∃q s',o=(.val [.slice 4 q (Z0 l).length],s')/\aC st s'/\Sl s' q (bK (Z0 l))/\∀b∈aM q,st.length<=b) (run Bd n 247 [.slice z p l.length] st):=by
 obtain⟨n,rfl⟩: ∃m,n=m+2:=⟨n-2,by omega⟩;rw[Ze,h.acb];unfold Oi Bx cy nM N_ oJ cH az aY tw zm Li zw Lb jQ;simp only[Zf 4 z p _ hz,aq,kl];refine Ok.join λaA qd=>?_
 refine Zj _ (λc y t=>∃(i z1:Nat) (po:ai) (out:List bc),y=[.slice z1 po out.length,.int .i64 (i:Int)]/\(z1=4\/po=none)/\i<=l.length/\l.length-i<=c/\aC st t/\Sl t po (bK out)/\out=(l.take i).foldl pd []/\out.length=i/\∀b∈aM po,st.length<=b) ?_ l.length (n+1) _ _ ⟨0,0,none,[],rfl,.inr rfl,cE _,by omega,.refl _,Sl.nil _,rfl,rfl,λb hb=>by cases hb⟩ (by omega);rintro c y t ⟨i,z1,po,out,rfl,hU,hi,hc,je,xm,CD,iG,aeA⟩ rec aQ;simp only[Zf 4 z1 po _ hU,av,aq];by_cases ax:i<l.length
 .obtain⟨i1,o1,rfl⟩:=hs.cB (by rw[Zq];omega)
  have cZ:l[i]? =some l[i]:=cg ax;have fZ:l.take (i+1)=l.take i++[l[i]]:=mV ax;generalize l[i]=e at cZ fZ;have cc:=hs.mono je;have lde: ∀(K:ah->M ah) (u:St),Sl u (some (i1,o1)) (bK l)->bQ i1 (i*4+o1) 4 K u=K (eN e) u:=λK u hu=>by
   rw[hu.wY (k:=i*4) (n:=4) (by rw[Zq];omega),DS cZ]
  have aer:(l.take (i+1)).foldl pd []=pd out e:=by rw[fZ,Bk,<-CD];rfl
  rw[aw (show(i:Int)<(l.length:Int) by omega),ae];refine Ok.join λaI jY=>?_
  refine Ok.join λaR lW=>?_
  refine Zj _ (λc y u=>∃k:Nat,y=[.int .i64 (k:Int)]/\k<=out.length/\k<=c/\u=t/\qw e out out.length=qw e out k) ?_ out.length (n+1) _ _ (by grind) (by omega);rintro c2 y2 u ⟨k,rfl,hk,jt,rfl,vA⟩ dt j4;simp only[av,aq];have fin:qw e out out.length=k->Ok (λo=>∃q s',o=(.val [.slice 4 q (Z0 l).length],s')/\aC st s'/\Sl s' q (bK (Z0 l))/\∀b∈aM q,st.length<=b) (aR [.int .i64 (k:Int)] u):=λhp=>by
   subst lW;simp only[av,aq,br];rw[Zb (by rw[aW,bC,bC];omega)];have h1:=xm.lK (k*4);have yu:((bK out).take (k*4)).length=k*4:=by rw[cV,Zq];omega
   have e1: ∀K:ah->M ah,dw po (k*4) K u=K ((bK out).take (k*4)) u:=λK=>by
    have:=jf h1 K;rwa [yu]at this
   rw[e1];obtain⟨r1,s1,qh,Up⟩:=(bn.nil (aC.refl u)).Lr (β:=ah) (sz:=4) (n:=0) (m:=k) (lim:=2199023255552) (ds:=(bK out).take (k*4)) (by omega) rfl yu (by omega);rw[Up,iL]at*
   rw[aZ,Zb (Zi ax),lde _ s1 (cc.mono qh.1)];unfold eN;simp only[av,aq];obtain⟨r2,s2,df,xa⟩:=qh.push (β:=ah) (sz:=4) (n:=0+k) (lim:=2199023255552) [.int .i64 e.slot,.int .i64 e.gen,.int .i64 e.key,.int .i64 e.value] (by omega) (by rw[yu];omega) rfl (by omega);rw[xa];rw[Zb (by rw[aW,bC,bC];omega)];have h2:=(xm.mono df.1).dj (k:=k*4) (by rw[Zq];omega);have Hy:((bK out).drop (k*4)).length=(out.length-k)*4:=by rw[fb,Zq];omega
   have e2: ∀K:ah->M ah,dw (dj true po (k*4)) ((out.length-k)*4) K s2=K ((bK out).drop (k*4)) s2:=λK=>by
    have:=jf h2 K;rwa [Hy]at this
   rw[e2];obtain⟨r3,s3,mG,Uq⟩:=df.Lr (β:=ah) (sz:=4) (n:=0+k+1) (m:=out.length-k) (lim:=2199023255552) (ds:=(bK out).drop (k*4)) (by omega) (by rw[bA,yu];simp;omega) Hy (by omega);rw[Uq,jY];simp only[bd,aq];have gx:(bK out).take (k*4)++[.int .i64 e.slot,.int .i64 e.gen,.int .i64 e.key,.int .i64 e.value]++(bK out).drop (k*4)=bK (pd out e):=by
    unfold pd;rw[hp,xT,Zt2,show e::out.drop k=[e]++out.drop k from rfl,xT,Zve,ZtJ,fA];rfl
   rw[gx]at mG;rw[Zc];refine aQ (l.length-(i+1)) _ _ (by omega) ⟨i+1,4,r3,pd out e,?_,.inl rfl,by omega,aO _,je.trans mG.1,mG.sl,aer.symm,by rw[Sb,iG],λb hb=>gJ je.len (mG.Hv b hb)⟩;rw[Sb,show 0+k+1+(out.length-k)=out.length+1 by omega];rfl
  rw[Za];cases k with
  |zero=>
   rw[aD (by omega),af];simp only[au,aq,af];exact fin vA
  |succ k=>
   rw[aw (show((k+1:Nat):Int)>0 by omega),ae,aZ,Zb (Zi ax)];simp only[br];rw[lde _ u cc];unfold eN;simp only[av,aq];obtain⟨i5,o5,rfl⟩:=xm.cB (by rw[Zq];omega);have aN:out[k]? =some (out.getD k ⟨0,0,0,0⟩):=by
    rw[dZ,cg (show k<out.length by omega)];rfl
   have oo:qw e out (k+1)=bif eY e (out.getD k ⟨0,0,0,0⟩)then qw e out k else k+1:=rfl;generalize out.getD k ⟨0,0,0,0⟩=f at aN oo;have rF:ar (((k+1:Nat):Int)-1)=((k:Nat):Int):=by rw[Zc];omega
   rw[rF,aZ,Zb (Zi)];simp only[br];rw[xm.wY (k:=k*4) (n:=4) (by rw[Zq];omega),DS aN];unfold eN;simp only[av,aq];have EI:=Oy n e f u;unfold eN at EI;rw[Zk EI];simp only[au,aq];grind
 .rw[aD (show ¬(i:Int)<(l.length:Int) by omega),af,qd]
  simp only[bd,aq,Zu];rw[dH (by omega)]at CD;have hss:out=Z0 l:=CD;rw[hss]at xm⊢;exact .mk ⟨po,_,rfl,Zv je,xm.fK _,aeA⟩
def tc (l:List ZC):ah:=(l.map ZU).flatten
def FY (l:List ZC):Prop:=∀x∈l,x.c9.length=12/\x.name.length<=28
theorem zG {x:ZC} (h:x.c9.length=12):(ZU x).length=14:=by
 simp[ZU,cO,Zw,h]
theorem G0: ∀ {l:List ZC},FY l->(tc l).length=l.length*14
 |[],_=>rfl
 |x::l,h=>by
  have h1:=zG (h x sb).1;have h2:=G0 (l:=l) λy hy=>h y (wb _ hy)
  show(ZU x++tc l).length=_;rw[bA,h1,h2,cO];omega
theorem K0: ∀ {l:List ZC},FY l->∀ {j:Nat} {x:ZC},l[j]? =some x->∀k,k<14->(tc l)[j*14+k]? =(ZU x)[k]?
 |[],_,_,_,h,_,_=>by cases h
 |y::l,hq,j,x,h,k,hk=>by
  have h1:=zG (hq y sb).1;show(ZU y++tc l)[j*14+k]? =_;cases j with
  |zero=>
   grind
  |succ j=>
   rw[mb (by omega),h1,show(j+1)*14+k-14=j*14+k by omega];exact K0 (λz hz=>hq z (wb _ hz)) (by simpa using h) k hk
theorem Zv6 (l:List ZC) (x:ZC):tc (l++[x])=tc l++ZU x:=by unfold tc;simp
def vO (qs:List ZC) (q:ZC):Bool:=match qs.getLast? with
 |none=>true
 |some p=>decide (cmpL (dh p.name) (dh q.name)<0)
def lJ (img:aj):List ZC->ak->Option (List ZC)
 |qs,[]=>some qs
 |qs,k::r=>match iU img k with
  |none=>none
  |some c=>match ZF c with
   |none=>none
   |some q=>bif vO qs q then lJ img (qs++[q]) r else none
def uv (img:aj) (dir:Int):Option (List ZC×ak):=if dir=0 then some ([],[])else match iU img dir with
 |none=>none
 |some b=>match kQ b with
  |none=>none
  |some l=>match lJ img [] l with
   |none=>none
   |some qs=>some (qs,dir::l)
def Jy (st:St) (R:Option (List ZC×ak)) (o:Out ah×St):Prop:=∃s',aC st s'/\match R with
 |none=>o=(.val [.slice 0 none 0,.slice 0 none 0,.bool false],s')
 |some (qs,bs)=>∃z p z2 q,o=(.val [.slice z p qs.length,.slice z2 q bs.length,.bool true],s')/\(z=14\/p=none)/\(z2=1\/q=none)/\Sl s' p (tc qs)/\Sl s' q (ints bs)/\FY qs/\qs.length<=16/\bs.length<=17
theorem Zqh (n:Nat) (img:aj) (dir:Int) (st:St) (hl:img.length<1000000) (hn:3100<=n):
  Ok (Jy st (uv img dir)) (run Bd n 245 [.str img,.int .i64 dir] st):=by
 obtain⟨n,rfl⟩: ∃m,n=m+2:=⟨n-2,by omega⟩;rw[Ze,h.ab9];unfold PH oG oC cy Zn iu az cM qQ eH bE Li Lb jQ;simp only[bO,av,aq,kl];obtain⟨R,hR⟩: ∃R,uv img dir=R:=⟨_,rfl⟩;rw[hR];have bad: ∀s',aC st s'->R=none->Ok (Jy st R) ((cu st.length [.slice 0 none 0,.slice 0 none 0,.bool false]:M ah) s'):=λs' hp hn=>by
  rw[hn,Zu];exact .mk ⟨_,Zv hp,rfl⟩
 unfold uv at hR;by_cases h0:dir=0
 .rw[bG h0]at hR
  rw[h0,Bo,ae,Zu];refine .mk ⟨_,Zv (.refl st),?_⟩;rw[<-hR];exact⟨0,none,0,none,rfl,.inr rfl,.inr rfl,Sl.nil _,Sl.nil _,λx hx=>(by cases hx),by simp,by simp⟩
 rw[ba h0]at hR;rw[dX.2 h0,af];refine Ok.call (DA n img dir st hl) ?_;rintro o ⟨s1,aH,ho⟩;cases mF:iU img dir with
 |none=>
  rw[mF]at ho hR;simp only at ho;subst ho;refine⟨_,s1,rfl,?_⟩;simp only[Zf 1 0 none _ (.inr rfl),au,aq];rw[bm,ae];exact bad s1 aH hR.symm
 |some b=>
 rw[mF]at ho hR;obtain⟨p,rfl,hf,p7⟩:=ho;simp only at hR;refine⟨_,s1,rfl,?_⟩;simp only[bd,au,aq];rw[bp,af];refine Ok.call (Zne (n+1) p b s1 hf.1 p7 (by omega)) ?_;rintro o ⟨s2,aV,ho⟩;have sX:=aH.trans aV;cases hg:kQ b with
 |none=>
  rw[hg]at ho hR;simp only at ho;subst ho;refine⟨_,s2,rfl,?_⟩;simp only[Zf 1 0 none _ (.inr rfl),au,aq];rw[bm,ae];exact bad s2 sX hR.symm
 |some l=>
 rw[hg]at ho hR;obtain⟨pl,rfl,dN,gS⟩:=ho;simp only at hR;refine⟨_,s2,rfl,?_⟩;simp only[bd,au,aq];rw[bp,af];refine Ok.join λaA qd=>?_
 have aez:=dN.oq;refine Zj _ (λc y t=>∃(i z:Nat) (pq:ai) (qs:List ZC),y=[.slice z pq qs.length,.int .i64 (i:Int)]/\(z=14\/pq=none)/\i<=l.length/\l.length-i<=c/\bn st t pq (tc qs)/\FY qs/\qs.length=i/\lJ img [] l=lJ img qs (l.drop i)/\Sl t pl (ints l)/\(∀b∈aM pq,s2.length<=b)/\s2.length<=t.length) ?_ l.length (n+1) _ _ ⟨0,0,none,[],rfl,.inr rfl,cE _,by omega,.nil sX,λx hx=>(by cases hx),rfl,by rw[dA],dN,λb hb=>(by cases hb),aO _⟩ (by omega);rintro c y t ⟨i,z,pq,qs,rfl,hz,hi,hc,gZ,tZ,yH,Ik,MG,hpq,It⟩ rec aQ;simp only[Zf 14 z pq _ hz,av,aq];by_cases ax:i<l.length
 .have fE:=Hc (l:=l) (i:=i) ax
  obtain⟨k,hk⟩: ∃k,l.getD i 0=k:=⟨_,rfl⟩;rw[hk]at fE;have uf:(ints l)[i]? =some (.int .i64 k):=by rw[<-hk];exact xU ax
  obtain⟨i1,o1,rfl⟩:=MG.cB (by rw[Zw];omega);rw[aw (show(i:Int)<(l.length:Int) by omega),ae,aZ,Zb (Zi ax)];simp only[br];rw[MG.dF uf];simp only[aX];rw[fE]at Ik;have fail: ∀u,aC st u->lJ img qs (k::l.drop (i+1))=none->Ok (Jy st R) ((cu st.length [.slice 0 none 0,.slice 0 none 0,.bool false]:M ah) u):=λu hu hf=>by
   refine bad u hu ?_;rw[Ik,hf]at hR;exact hR.symm
  refine Ok.call (DA n img k t hl) ?_;rintro o ⟨t1,je,ho⟩;have Fb:=gZ.mono je;cases HY:iU img k with
  |none=>
   rw[HY]at ho;simp only at ho;subst ho;refine⟨_,t1,rfl,?_⟩;simp only[Zf 1 0 none _ (.inr rfl),au,aq];rw[bm,ae];exact fail t1 Fb.1 (by unfold lJ;rw[HY])
  |some cb=>
   rw[HY]at ho;obtain⟨pc,rfl,L8,adh⟩:=ho;refine⟨_,t1,rfl,?_⟩;simp only[bd,au,aq];rw[bp,af];refine Ok.call (ZrN (n+1) pc cb t1 L8.1 adh (by omega)) ?_;rintro o ⟨t2,Va,ho⟩;have qi:=Fb.mono Va;cases Mb:ZF cb with
   |none=>
    rw[Mb]at ho;simp only at ho;subst ho;refine⟨_,t2,rfl,?_⟩;rw[de];have h0l:(ints B5.c9).length=12:=rfl;unfold ZU;simp only[bO,av];rw[bD h0l];simp only[au,aq];rw[bD (by rw[cO,cO,h0l]),Za,bm,ae];simp only[au,aq];rw[ae];exact fail t2 qi.1 (by unfold lJ;rw[HY];simp only;rw[Mb])
   |some q=>
    rw[Mb]at ho;obtain⟨rfl,xj⟩:=ho;have hqn:q.name.length<=28:=by have:=(ZkM Mb).1;omega
    refine⟨_,t2,rfl,?_⟩;have p9:ZU q=DV.str q.name::DV.int .i64 (q.mask:Int)::ints q.c9:=rfl;rw[de,p9];simp only[bO,av];have adP:(ints q.c9).length=12:=by rw[Zw];exact xj
    rw[bD adP];simp only[au,aq];rw[<-p9,bD (zG xj)];have Vg:lJ img qs (k::l.drop (i+1))=bif vO qs q then lJ img (qs++[q]) (l.drop (i+1))else none:=by
     conv=>lhs;unfold lJ
     rw[HY];grind
    have go: ∀u,aC t2 u->vO qs q=true->Ok (Jy st R) ((cd (ZU q) λi3=>bQ i3 0 14 λcz=>cj 14 pq qs.length cz 1 586406201480 λp1=>rec [.slice 14 p1 (qs.length+1),.int .i64 (ar ((i:Int)+1))]) u):=λu hu UR=>by
     rw[UR,ae]at Vg;have aev:=qi.mono hu;have j1:aC u (u++[some ⟨false,ZU q⟩]):= .new _ _;rw[Zz,ko (f:=false) (all:=ZU q) (by simp) (by rw[zG xj];omega),dA,dH (by rw[zG xj];omega)];obtain⟨p6,u6,lE,qb,w8,sT⟩:=(aev.mono j1).sK (β:=ah) (sz:=14) (n:=qs.length) (m:=1) (lim:=586406201480) (ds:=ZU q) (by omega) (G0 tZ) (by rw[zG xj]) (by omega);rw[sT,Zc];have hlen:=((je.trans Va).trans (hu.trans j1)).len;refine aQ (l.length-(i+1)) _ _ (by omega) ⟨i+1,14,p6,qs++[q],by rw[bA,iK];rfl,.inl rfl,by omega,aO _,by rw[Zv6];exact lE,λx hx=>?_,by rw[bA,iK,yH],by rw[Ik,Vg],?_,?_,by have:=qb.1;omega⟩
     .rcases gU.1 hx with hx|hx
      .exact tZ x hx
      grind
     .exact(MG.mono ((je.trans Va).trans (hu.trans j1))).fx qb (xW λb hb cU=>by have:=aez b hb;have:=hpq b cU;omega)
     grind
    rw[Za,bp,af,Za];by_cases ug:i=0
    .have aeI:qs=[]:=by grind
     rw[aD (show ¬(i:Int)>0 by omega),af];simp only[au,aq];rw[af,bD (zG xj)];exact go t2 (.refl _) (by rw[aeI];rfl)
    .have hx:qs[i-1]? =some (qs[i-1]'(by omega)):=by grind
     have HW:qs.getLast?=qs[i-1]? :=by rw[List.getLast?_eq_getElem?,yH]
     have adg:=tZ _ (jP (show i-1<qs.length by omega));generalize qs[i-1]'(by omega)=pv at hx adg;obtain⟨i5,o5,rfl⟩:=qi.sl.cB (by rw[G0 tZ];omega);have cL:(tc qs)[(i-1)*14]? =some (.str pv.name):=by
      have:=K0 tZ hx 0 (by omega);rw[gV]at this;rw[this];rfl
     rw[aw (show(i:Int)>0 by omega),ae,aZ,Zc,show(i:Int)-1=((i-1:Nat):Int) by omega,Zb (Zi)];simp only[br];rw[qi.sl.get cL];simp only[wh];refine Ok.call (Zh7 (n+1) pv.name q.name (by omega) (by omega) (by omega) (by omega) t2) ?_;rintro _ ⟨t3,rfl,aeD⟩;refine⟨_,t3,rfl,?_⟩;simp only[av,au,aq];have UR:vO qs q=decide (cmpL (dh pv.name) (dh q.name)<0):=by
      unfold vO;rw[HW,hx]
     by_cases LX:cmpL (dh pv.name) (dh q.name)>=0
     .rw[aw LX,ae]
      refine fail t3 (qi.mono aeD).1 ?_;rw[Vg,UR,aD (by omega)];rfl
     .rw[aD LX,af,bD (zG xj)]
      grind
 .rw[aD (show ¬(i:Int)<(l.length:Int) by omega),af,qd]
  rw[ke (by omega)]at Ik;rw[Ik]at hR;simp only[bd,aq];rw[Zz];have j1:aC t (t++[some ⟨false,[.int .i64 dir]⟩]):= .new _ _;have aeu:=gZ.mono j1;have r1: ∀K:ah->M ah,dw pl (l.length*1) K (t++[some ⟨false,[.int .i64 dir]⟩])=K (ints l) (t++[some ⟨false,[.int .i64 dir]⟩]):=λK=>by
   have:=jf (MG.mono j1) K;rwa [Zw,<-cT l.length]at this
  rw[r1];have hod:bn st (t++[some (⟨false,[.int .i64 dir]⟩:bT)]) (some (t.length,0)) (ints [dir]):=⟨gZ.1.trans j1,.inr ⟨t.length,rfl,gZ.1.len,by simp[ints]⟩⟩;obtain⟨p6,u6,lE,qb,w8,sT⟩:=hod.sK (β:=ah) (sz:=1) (n:=1) (m:=l.length) (lim:=8796093022208) (ds:=ints l) (by omega) rfl (by rw[Zw,cT]) (by omega);have aeH:=gZ.oq;have aet:bn st u6 pq (tc qs):=aeu.wX qb (λb hb cU=>by have:=aeH b hb;have:=cx.1 cU;omega) lE.1;rw[sT,Zu];refine .mk ⟨_,Zv lE.1,?_⟩;rw[<-hR];refine⟨14,pq,1,p6,?_,.inl rfl,.inl rfl,aet.sl.fK _,?_,tZ,by omega,by simp;omega⟩
  .rw[cO,tk 1 l.length]
  .have:ints (dir::l)=ints [dir]++ints l:=rfl
   rw[this];exact lE.sl.fK _
def kT (img:aj) (top:Int) (u:Nat) (g:Int):Nat->Nat->List bw->Option (List bw)
 |0,_,l=>some l
 |c+1,i,l=>match lA img top i with
  |none=>none
  |some s=>bif decide (u<=i)then(bif nh s then kT img top u g c (i+1) l else none)else(bif decide (s.gen<1)||decide (s.gen>g)then none else kT img top u g c (i+1) (l++[s]))
def pQ (img:aj) (x:dY):Option (List bw×ak):=match wL img x.bY with
 |none=>none
 |some pg=>bif decide (pg.length=(x.used.toNat+6)/7+nY x.used.toNat)then(match kT img x.bY x.used.toNat x.g (7*((x.used.toNat+6)/7)) 0 []with
  |none=>none
  |some l=>some (l,pg))else none
def NF (st:St) (R:Option (List bw×ak)) (o:Out ah×St):Prop:=∃s',aC st s'/\match R with
 |none=>o=(.val [.slice 0 none 0,.slice 0 none 0,.bool false],s')
 |some (l,pg)=>∃p q,o=(.val [.slice 3 p l.length,.slice 1 q pg.length,.bool true],s')/\Sl s' p (bP l)/\Sl s' q (ints pg)
theorem Zre {a:Nat} (h:a<=1792):nY a<=17:=by
 grind[nY]
theorem Zos (n:Nat) (img:aj) (x:dY) (pc:ai) (st:St) (hl:img.length<1000000) (hx:pK x) (hn:4000<=n):
  Ok (NF st (pQ img x)) (run Bd n 243 [.str img,.agg (dO x pc)] st):=by
 obtain⟨n,rfl⟩: ∃m,n=m+1:=⟨n-1,by omega⟩;rw[Ze,h.ab7];unfold O4 JH oC az cy cM pP iu mh eH qQ Li xR qN Lb jQ;simp only[bO];rw[de];unfold dO;simp only[av,bd,aq,kl];obtain⟨g1,g2,g3,g4,_,_⟩:=Z2 hx.g;have vF:=hx.u0;have yL:=hx.u1;obtain⟨u,hu⟩: ∃u:Nat,x.used=(u:Int):=⟨x.used.toNat,by omega⟩;have Vs:x.used.toNat=u:=by omega
 have xo:u<=1792:=by omega
 obtain⟨R,hR⟩: ∃R,pQ img x=R:=⟨_,rfl⟩;rw[hR,hu];have bad: ∀s',aC st s'->R=none->Ok (NF st R) ((cu st.length [.slice 0 none 0,.slice 0 none 0,.bool false]:M ah) s'):=λs' hp hn=>by
  rw[hn,Zu];exact .mk ⟨_,Zv hp,rfl⟩
 unfold pQ at hR;rw[Vs]at hR;refine Ok.call (Zo3 n img x.bY st hl (by omega)) ?_;rintro o ⟨s1,aH,ho⟩;have lv: ∀t,Ok (λo=>o=(.val [.int .i64 (((u+6)/7:Nat):Int)],t)) (run Bd n 266 [.int .i64 (u:Int)] t):=λt=>ZiL n u (by omega) t
 cases hP:wL img x.bY with
 |none=>
  rw[hP]at ho hR;simp only at ho;subst ho;refine⟨_,s1,rfl,?_⟩;simp only[Zf 1 0 none _ (.inr rfl),au,aq];rw[Za,bm,ae];simp only[au,aq];rw[ae];exact bad s1 aH hR.symm
 |some pg=>
  rw[hP]at ho hR;obtain⟨q,rfl,hq⟩:=ho;simp only at hR;refine⟨_,s1,rfl,?_⟩;simp only[bd,au,aq];rw[Za,bp,af];obtain⟨_,e1,rfl⟩:=lv s1;rw[wu e1];simp only[av,aq];obtain⟨_,e2,rfl⟩:=Zqm n u (by omega) s1 (by omega);rw[wu e2];simp only[av,au,aq];have hfn:=Zre xo;rw[Zc (x:=(((u+6)/7:Nat):Int)+(nY u:Int))];have Ul:(((pg.length:Nat):Int)==(((u+6)/7:Nat):Int)+(nY u:Int))=decide (pg.length=(u+6)/7+nY u):=by
   have:=nf pg.length ((u+6)/7+nY u) ((((u+6)/7:Nat):Int)+(nY u:Int));exact this
  rw[Ul];cases hc:decide (pg.length=(u+6)/7+nY u)with
  |false=>
   rw[hc,af]at hR;rw[bm,ae];grind
  |true=>
  rw[hc,ae]at hR;rw[bp,af];refine Ok.join λaI jY=>?_
  obtain⟨m,hm⟩: ∃m,7*((u+6)/7)=m:=⟨_,rfl⟩;rw[hm]at hR;refine Zj _ (λc y t=>∃(i z:Nat) (pl:ai) (l:List bw),y=[.slice z pl l.length,.int .i64 (i:Int)]/\(z=3\/pl=none)/\i<=m/\m-i<=c/\bn st t pl (bP l)/\l.length<=i/\kT img x.bY u x.g m 0 []=kT img x.bY u x.g (m-i) i l/\Sl t q (ints pg)/\(∀b∈aM pl,s1.length<=b)/\s1.length<=t.length) ?_ m n _ _ ⟨0,0,none,[],rfl,.inr rfl,cE _,by omega,.nil aH,aO _,rfl,hq,λb hb=>(by cases hb),aO _⟩ (by omega);have yH:=hq.oq;rintro c y t ⟨i,z,pl,l,rfl,hz,hi,LW,gZ,gS,aN,Vh,kW,cc⟩ rec aQ;simp only[Zf 3 z pl _ hz,av,aq];obtain⟨_,e3,rfl⟩:=lv t;rw[Zk e3];simp only[av,aq];rw[Zc (x:=7*(((u+6)/7:Nat):Int)),show 7*(((u+6)/7:Nat):Int)=(m:Int) by omega];by_cases ax:i<m
  .rw[aw (show(i:Int)<(m:Int) by omega),ae]
   obtain⟨r,hr⟩: ∃r,m-i=r+1:=⟨m-i-1,by omega⟩;rw[hr]at aN;have jH:m-(i+1)=r:=by omega
   refine Ok.call (Zqi n img x.bY i t hl (by omega) (by omega)) ?_;rintro _ ⟨t1,rfl,je⟩;have Fb:=gZ.mono je;refine⟨_,t1,rfl,?_⟩;rw[de];unfold ee;simp only[au,av,aq];have fail:kT img x.bY u x.g (r+1) i l=none->Ok (NF st R) ((cu st.length [.slice 0 none 0,.slice 0 none 0,.bool false]:M ah) t1):=λhf=>by
    refine bad t1 Fb.1 ?_;rw[aN,hf]at hR;exact hR.symm
   rw[Za];cases hF:lA img x.bY i with
   |none=>
    rw[show(!(none:Option bw).isSome)=true from rfl,ae];simp only[au,aq];rw[Za,ae];simp only[au,aq];rw[ae];exact fail (by unfold kT;rw[hF])
   |some s=>
    have dS:kT img x.bY u x.g (r+1) i l=bif decide (u<=i)then(bif nh s then kT img x.bY u x.g r (i+1) l else none)else(bif decide (s.gen<1)||decide (s.gen>x.g)then none else kT img x.bY u x.g r (i+1) (l++[s])):=by
     conv=>lhs;unfold kT
     rw[hF]
    rw[show(!(some s).isSome)=false from rfl,af,show(some s).getD jg=s from rfl];have Ip:((s.live==false)&&((s.gen==0)&&((s.block==0)&&true)))=nh s:=rfl;rw[Ip,Za];by_cases hiu:u<=i
    .rw[aw hiu,ae]at dS
     rw[aw (show(i:Int)>=(u:Int) by omega),ae];simp only[au,aq];rw[Za];cases vH:nh s with
     |false=>
      rw[vH,af]at dS;rw[bm,ae];simp only[au,aq];rw[ae];exact fail dS
     |true=>
      rw[vH,ae]at dS;rw[bp,af,Za,aD (show ¬(i:Int)<(u:Int) by omega),af];simp only[au,aq];rw[af,Za,af];simp only[bd,aq];rw[Zc];exact aQ (m-(i+1)) _ _ (by omega) ⟨i+1,3,pl,l,rfl,.inl rfl,by omega,aO _,Fb,by omega,by rw[aN,dS,jH],Vh.mono je,kW,by have:=je.len;omega⟩
    .rw[aD hiu,af]at dS
     rw[aD (show ¬(i:Int)>=(u:Int) by omega),af];simp only[au,aq];rw[Za,af,Za,aw (show(i:Int)<(u:Int) by omega),ae,Za];by_cases nr:s.gen<1
     .rw[aw nr,Bool.true_or,ae]at dS
      rw[aw nr,ae];simp only[au,aq];rw[ae];exact fail dS
     .rw[aD nr,zd]at dS
      rw[aD nr,af];simp only[au,aq];by_cases oS:s.gen>x.g
      .rw[aw oS,ae]at dS
       rw[aw oS,ae];exact fail dS
      .rw[aD oS,af]at dS
       rw[aD oS,af,Za,ae];have Vi:([.bool s.live,.int .i64 s.gen,.int .i64 s.block]:ah)=ee s:=rfl;rw[Vi];have j1:aC t1 (t1++[some ⟨false,ee s⟩]):= .new _ _;rw[Zz,ko (f:=false) (all:=ee s) (by simp) (by show 0+3<=3;omega),dA,dH (show(ee s).length<=3 from aO _)];obtain⟨p6,u6,lE,qb,w8,sT⟩:=(Fb.mono j1).sK (β:=ah) (sz:=3) (n:=l.length) (m:=1) (lim:=2932031007402) (ds:=ee s) (by omega) (Zx l) rfl (by omega);rw[sT];simp only[bd,aq];rw[Zc];have hlen:=(je.trans j1).len;refine aQ (m-(i+1)) _ _ (by omega) ⟨i+1,3,p6,l++[s],by rw[bA,iK];rfl,.inl rfl,by omega,aO _,?_,by rw[bA,iK];omega,by rw[aN,dS,jH],?_,λb hb=>?_,by have:=qb.1;omega⟩
       .rw[GD]
        have:bP [s]=ee s:=by unfold bP;simp
        rw[this];exact lE
       .exact(Vh.mono (je.trans j1)).fx qb (xW λb hb cU=>by have:=yH b hb;have:=kW b cU;omega)
       grind
  .rw[aD (show ¬(i:Int)<(m:Int) by omega),af,jY]
   rw[show m-i=0 by omega]at aN;rw[aN]at hR;simp only[bd,aq,Zu];refine .mk ⟨_,Zv gZ.1,?_⟩;rw[<-hR];exact⟨pl,q,rfl,gZ.sl.fK _,Vh.fK _⟩
def lS (l:List bw) (u g:Int):Nat->Int->ak->Option (ak)
 |0,_,_=>none
 |f+1,k,out=>bif k==0 then some out else(bif decide (k>u)then none else(match l[(k-1).toNat]? with
  |none=>none
  |some s=>bif s.live then none else(bif decide (s.gen>=g)then none else(bif decide (k-1∈out)then none else lS l u g f s.block (out++[k-1])))))
def rQ (g:Int) (out:ak) (i:Nat) (s:bw):Bool:=bif s.live then true else(bif decide (s.gen<g)then decide ((i:Int)∈out)else(bif s.gen==g then s.block==0 else true))
def qX (g:Int) (out:ak):Nat->List bw->Bool
 |_,[]=>true
 |i,s::r=>bif rQ g out i s then qX g out (i+1) r else false
def vg (l:List bw) (x:dY):Option (ak):=match lS l x.used x.g (l.length+2) x.free []with
 |none=>none
 |some out=>bif qX x.g out 0 l then some out else none
def Bs (st:St) (R:Option (ak)) (o:Out ah×St):Prop:=∃s',aC st s'/\match R with
 |none=>o=(.val [.slice 0 none 0,.bool false],s')
 |some l=>∃z p,o=(.val [.slice z p l.length,.bool true],s')/\(z=1\/p=none)/\Sl s' p (ints l)
theorem Gz {x:bw} (h:l[j]? =some x) (k:Nat) (hk:k<3:=by omega):(bP l)[j*3+k]? =(ee x)[k]? :=by
 have:=Rz h;grind
theorem Zp2 (n:Nat) (l:List bw) (z:Nat) (p:ai) (x:dY) (pc:ai) (st:St) (hz:z=3\/p=none) (hs:Sl st p (bP l)) (gS:(l.length:Int)=x.used) (nu:l.length<=1792) (hr: ∀s∈l,s.live=false->0<=s.block/\s.block<=5000) (hf:0<=x.free/\x.free<=5000) (hn:4000<=n):
  Ok (Bs st (vg l x)) (run Bd n 244 [.slice z p l.length,.agg (dO x pc)] st):=by
 obtain⟨n,rfl⟩: ∃m,n=m+1:=⟨n-1,by omega⟩;rw[Ze,h.ab8];unfold Qi ZZ fX Q_ cH N_ sE az Zm aY lu tt Li Lb eU bE jQ;simp only[Zf 3 z p _ hz];rw[de];unfold dO;simp only[av,bd,aq,kl];obtain⟨R,hR⟩: ∃R,vg l x=R:=⟨_,rfl⟩;rw[hR];have bad: ∀s',aC st s'->R=none->Ok (Bs st R) ((cu st.length [.slice 0 none 0,.bool false]:M ah) s'):=λs' hp hn=>by
  rw[hn,Zu];exact .mk ⟨_,Zv hp,rfl⟩
 unfold vg at hR;have CV: ∀(t:St) (j:Nat) (s:bw),Sl t p (bP l)->l[j]? =some s->∃i o,p=some (i,o)/\(∀K:DV->M ah,bF i (j*3+o) K t=K (.bool s.live) t)/\(∀K:DV->M ah,bF i (j*3+o+1) K t=K (.int .i64 s.gen) t)/\∀K:DV->M ah,bF i (j*3+o+2) K t=K (.int .i64 s.block) t:=λt j s ht hj=>by
  have sV:=(eK.1 hj).1;obtain⟨i,o,rfl⟩:=ht.cB (by rw[Zx];omega);refine⟨i,o,rfl,λK=>?_,λK=>?_,λK=>?_⟩
  .have:=ht.get (β:=ah) (by rw[Gz hj 0];rfl) K
   exact this
  .have:=ht.get (β:=ah) (by rw[Gz hj 1];rfl) K
   rw[show j*3+o+1=j*3+1+o by omega];exact this
  .have:=ht.get (β:=ah) (by rw[Gz hj 2];rfl) K
   rw[show j*3+o+2=j*3+2+o by omega];exact this
 refine Ok.join λaA qd=>?_
 refine Zj _ (λc y t=>∃(k:Int) (f z1:Nat) (po:ai) (out:ak),y=[.slice z1 po out.length,.int .i64 k]/\(z1=1\/po=none)/\(0<=k/\k<=5000)/\out.length+f=l.length+1/\f<=c/\bn st t po (ints out)/\out.Nodup/\(∀j∈out,0<=j/\j<(l.length:Int))/\lS l x.used x.g (l.length+2) x.free []=lS l x.used x.g (f+1) k out/\Sl t p (bP l)) ?_ (l.length+1) n _ _ ⟨x.free,l.length+1,0,none,[],rfl,.inr rfl,hf,by simp,aO _,.nil (.refl _),.nil,λj hj=>(by cases hj),rfl,hs⟩ (by omega);rintro c y t ⟨k,f,z1,po,out,rfl,hU,hk,ew,L8,gZ,jw,gx,aN,cc⟩ rec aQ;simp only[Zf 1 z1 po _ hU,av,aq];have jX:(ints out).length=out.length*1:=by rw[Zw,cT]
 have fail: ∀u,aC st u->lS l x.used x.g (f+1) k out=none->Ok (Bs st R) ((cu st.length [.slice 0 none 0,.bool false]:M ah) u):=λu hu hf=>by
  refine bad u hu ?_;rw[aN,hf]at hR;exact hR.symm
 by_cases lD:k=0
 .have adD:lS l x.used x.g (f+1) k out=some out:=by unfold lS;rw[lD];rfl
  rw[aN,adD]at hR;simp only at hR;rw[lD,show(!((0:Int)==0))=false from rfl,af,qd];simp only[bd,aq];refine Ok.join λaI jY=>?_
  refine Zj _ (λc y u=>∃i:Nat,y=[.int .i64 (i:Int)]/\i<=l.length/\l.length-i<=c/\u=t/\qX x.g out 0 l=qX x.g out i (l.drop i)) ?_ l.length n _ _ ⟨0,rfl,cE _,by omega,rfl,rfl⟩ (by omega);rintro c2 y2 u ⟨i,rfl,hi,jt,rfl,xk⟩ dt j4;simp only[av,aq];by_cases ax:i<l.length
  .have cZ:l[i]? =some l[i]:=cg ax
   have fE:l.drop i=l[i]::l.drop (i+1):=iC ax;generalize l[i]=s at cZ fE;rw[fE]at xk;have Fj:qX x.g out 0 l=bif rQ x.g out i s then qX x.g out (i+1) (l.drop (i+1))else false:=xk;obtain⟨pi,IX,rfl,CU,ld1,VJ⟩:=CV u i s cc cZ;have yq:rQ x.g out i s=true->Ok (Bs st R) (dt [.int .i64 (ar ((i:Int)+1))] u):=λhb=>by
    rw[hb,ae]at Fj;rw[Zc];exact j4 (l.length-(i+1)) _ _ (by omega) ⟨i+1,rfl,by omega,aO _,rfl,Fj⟩
   have Je:rQ x.g out i s=false->Ok (Bs st R) ((cu st.length [.slice 0 none 0,.bool false]:M ah) u):=λhb=>by
    rw[hb,af]at Fj;rw[Fj]at hR;exact bad u gZ.1 hR.symm
   rw[aw (by omega),ae,aZ,Zb (Zi ax)];simp only[br];rw[CU];simp only[tq];rw[Za];cases fg:s.live with
   |true=>
    have hb:rQ x.g out i s=true:=by unfold rQ;rw[fg];rfl
    rw[bp,af];simp only[au,aq];rw[Za,af];simp only[au,aq];rw[Za,af,aZ,Zb (Zi ax),CU];simp only[tq];rw[Za,fg,bp,af];simp only[au,aq];rw[Za,af];simp only[au,aq];rw[af];exact yq hb
   |false=>
    have hb:rQ x.g out i s=(bif decide (s.gen<x.g)then decide ((i:Int)∈out)else(bif s.gen==x.g then s.block==0 else true)):=by unfold rQ;rw[fg];rfl
    rw[bm,ae,aZ,Zb (Zi ax),ld1];simp only[aX,au,aq];rw[Za];have second:decide (s.gen<x.g)=false\/decide ((i:Int)∈out)=true->∀ca:ah->M ah,(∀b,ca [.bool b] u=(bif b then(cu st.length [.slice 0 none 0,.bool false]:M ah)else dt [.int .i64 (ar ((i:Int)+1))]) u)->
      Ok (Bs st R) ((bif s.gen==x.g then ca [.bool (!(s.block==0))]else ca [.bool false]) u):=λkU ca AK=>by
     cases sU:(s.gen==x.g)with
     |true=>
      have agJ:=eq_of_beq sU;rw[ae,AK];have cU:rQ x.g out i s=(s.block==0):=by
       rw[hb,aD (by omega),af,sU,ae]
      cases ix:(s.block==0)with
      |true=>rw[bp,af];exact yq (by rw[cU,ix])
      |false=>rw[bm,ae];exact Je (by rw[cU,ix])
     |false=>
      rw[af,AK,af];refine yq ?_;rw[hb,sU,af];rcases kU with h1|h1
      .rw[h1];rfl
      .rw[h1];cases decide (s.gen<x.g)<;>rfl
    have YN:decide (s.gen<x.g)=false\/decide ((i:Int)∈out)=true->Ok (Bs st R) ((bJ (some (pi,IX)) λi2 o1=>aB (aP (i:Int) l.length)<|bF i2 (i*3+o1) λd1=>sJ d1 λx1=>
      cI (λWo=>gP Wo λb4 Wp=>aJ Wp<|cI (λafR=>gP afR λb5 afS=>aJ afS<|
       (bif b5 then(cu st.length [.slice 0 none 0,.bool false]:M ah)else dt [.int .i64 (ar ((i:Int)+1))])) λfS=>
      bif b4 then bJ (some (pi,IX)) λi3 o2=>aB (aP (i:Int) l.length)<|bF i3 (i*3+o2+2) λd2=>cP .i64 d2 λx2=>fS [.bool (!(x2==0))]
      else fS [.bool false]) λdp=>
      bif !x1 then bJ (some (pi,IX)) λi4 o3=>aB (aP (i:Int) l.length)<|bF i4 (i*3+o3+1) λd3=>cP .i64 d3 λx3=>dp [.bool (x3==x.g)]
      else dp [.bool false]) u):=λkU=>by
     rw[aZ,Zb (Zi ax),CU];simp only[tq];rw[Za,fg,bm,ae,aZ,Zb (Zi ax),ld1];simp only[aX,au,aq];refine Ok.join λfS adV=>?_
     have:=second kU fS (λb=>by rw[adV];simp only[au,aq]);cases sU:(s.gen==x.g)with
     |true=>
      rw[sU,ae]at this;rw[ae,aZ,Zb (Zi ax),VJ];simp only[aX];exact this
     |false=>
      rw[sU,af]at this;rw[af];exact this
    cases hg:decide (s.gen<x.g)with
    |true=>
     rw[ae];refine Ok.call (BC n 1 out (i:Int) po u (.inl rfl) gZ.sl) ?_;rintro _ rfl;refine⟨_,u,rfl,?_⟩;simp only[au,aq];rw[Za];cases ho:decide ((i:Int)∈out)with
     |true=>
      rw[bp,af];exact YN (.inr ho)
     |false=>
      rw[bm,ae];simp only[au,aq];rw[ae];exact Je (by rw[hb,hg,ae,ho])
    |false=>
     rw[af];simp only[au,aq];rw[Za,af];exact YN (.inl hg)
  .rw[aD (by omega),af,jY]
   rw[ke (by omega)]at xk;rw[xk,show qX x.g out i []=true from rfl,ae]at hR;simp only[aq,Zu];refine .mk ⟨_,Zv gZ.1,?_⟩;rw[<-hR];exact⟨1,po,rfl,.inl rfl,gZ.sl.fK _⟩
 .have dS:lS l x.used x.g (f+1) k out=(bif decide (k>x.used)then none else(match l[(k-1).toNat]? with
    |none=>none
    |some s=>bif s.live then none else(bif decide (s.gen>=x.g)then none else(bif decide (k-1∈out)then none else lS l x.used x.g f s.block (out++[k-1]))))):=by
   conv=>lhs;unfold lS
   rw[dX.2 lD,af]
  rw[dX.2 lD,bm,ae,Za];by_cases Mh:k>x.used
  .rw[aw Mh,ae]at dS
   rw[aw Mh,ae];simp only[au,aq];rw[Za,ae];simp only[au,aq];rw[Za,ae];simp only[au,aq];rw[ae];exact fail t gZ.1 dS
  .rw[aD Mh,af]at dS
   obtain⟨j,hj⟩: ∃j:Nat,k-1=(j:Int):=⟨(k-1).toNat,by omega⟩;have sV:j<l.length:=by omega
   have cZ:l[j]? =some l[j]:=cg sV;have lG:l[j]∈l:=jP sV;generalize l[j]=s at cZ lG;rw[hj,br,cZ]at dS;simp only at dS;obtain⟨pi,IX,rfl,CU,ld1,VJ⟩:=CV t j s cc cZ;rw[aD Mh,af,aZ,Zc (x:=k-1),hj,Zb (Zi sV)];simp only[br];rw[CU];simp only[tq,au,aq];rw[Za];cases fg:s.live with
   |true=>
    rw[fg,ae]at dS;rw[ae];simp only[au,aq];rw[Za,ae];simp only[au,aq];rw[ae];exact fail t gZ.1 dS
   |false=>
    rw[fg,af]at dS;rw[af,aZ,Zb (Zi sV),ld1];simp only[aX,au,aq];rw[Za];cases hg:decide (s.gen>=x.g)with
    |true=>
     rw[hg,ae]at dS;rw[ae];simp only[au,aq];rw[ae];exact fail t gZ.1 dS
    |false=>
     rw[hg,af]at dS;rw[af];refine Ok.call (BC n 1 out (j:Int) po t (.inl rfl) gZ.sl) ?_;rintro _ rfl;refine⟨_,t,rfl,?_⟩;simp only[au,aq];cases ho:decide ((j:Int)∈out)with
     |true=>
      rw[ho,ae]at dS;rw[ae];exact fail t gZ.1 dS
     |false=>
      rw[ho,af]at dS;have cA:(j:Int)∉out:=Ds ho;have XU:(out++[(j:Int)]).Nodup:=uI.2 ⟨jw,zg.2 ⟨by simp,.nil⟩,λa ha b hb e=>cA (by rw[<-cx.1 hb,<-e];exact ha)⟩;have XL: ∀a∈out++[(j:Int)],0<=a/\a<(l.length:Int):=λa ha=>by
       rcases gU.1 ha with ha|ha
       .exact gx a ha
       .rw[cx.1 ha];omega
      have Fa:=M5 l.length _ XU XL;rw[bA,iK]at Fa;obtain⟨f,rfl⟩: ∃f',f=f'+1:=⟨f-1,by omega⟩;rw[af];have j1:aC t (t++[some ⟨false,[.int .i64 (j:Int)]⟩]):= .new _ _;rw[Zz,ko (f:=false) (all:=[.int .i64 (j:Int)]) (by simp) (by simp),dA,dH (by simp)];obtain⟨p6,u6,lE,qb,w8,sT⟩:=(gZ.mono j1).sK (β:=ah) (sz:=1) (n:=out.length) (m:=1) (lim:=8796093022208) (ds:=[.int .i64 (j:Int)]) (by omega) jX rfl (by omega);rw[sT];have Yg:Sl u6 (some (pi,IX)) (bP l):=by
       refine(hs.mono (lE.1))
      obtain⟨pi2,po2,e,_,_,afn⟩:=CV u6 j s Yg cZ;cases e;rw[aZ,Zb (Zi sV),afn];simp only[aX];refine aQ f _ _ (by omega) ⟨s.block,f,1,p6,out++[(j:Int)],by rw[bA,iK],.inl rfl,hr s lG fg,by rw[bA,iK];omega,aO _,by rw[Ky];exact lE,XU,XL,by rw[aN,dS],Yg⟩
def xu (m:Int) (l:ak) (a:Int):ak:=if 0<=a/\a<m/\a∉l then l.filter (λx=>decide (x<a))++a::l.filter (λx=>decide (a<x))else l
theorem KY {l:ak} {a:Int} (h:kN l):kN (xu m l a)/\∀k,k∈xu m l a↔k∈l\/(k=a/\0<=a/\a<m):=by
 unfold xu;by_cases hc:0<=a/\a<m/\a∉l
 .rw[bG hc]
  refine⟨?_,λk=>?_⟩
  .unfold kN
   rw[Jm];refine⟨List.Pairwise.sublist List.filter_sublist h,List.pairwise_cons.2 ⟨λx hx=>?_,List.Pairwise.sublist List.filter_sublist h⟩,λx hx y hy=>?_⟩
   .grind
   grind
  grind
 grind
def oK (m:Int):ak->ak->Option (ak)
 |[],r=>some r
 |k::a,r=>bif decide (k<2)then none else(bif decide (k∈r)then none else oK m a (xu m r k))
def js (u:Int) (l:List bw) (e:bc) (k:Int):Bool:=bif decide (e.slot>=u)then false else(match l[e.slot.toNat]? with
 |none=>false
 |some s=>(s.live==true)&&((s.gen==e.gen)&&((s.block==k)&&true)))
def iO (u:Int) (l:List bw):List bc->ak->Bool
 |e::es,k::ks=>bif js u l e k then iO u l es ks else false
 |_,_=>true
def ig (im:aj) (u:Int) (l:List bw):List ZC->List di->ak->Int->Option (List di×ak×Int)
 |[],hs,all,lv=>some (hs,all,lv)
 |q::r,hs,all,lv=>match tI im q.c9 with
  |none=>none
  |some (es,ns)=>bif iO u l es ns then ig im u l r (hs++[⟨q.name,Z0 es⟩]) (all++ns) (lv-es.length)else none
def nz (l:List bw):Nat:=(l.filter (·.live)).length
def tL (img:aj) (x:dY):Option (eL×ak):=bif !iN x then none else(bif decide (x.blocks>((img.length/64:Nat):Int))then none else
 (match pQ (img.take (64*x.blocks.toNat)) x with
 |none=>none
 |some (l,pg)=>match vg l x with
  |none=>none
  |some fr=>match uv (img.take (64*x.blocks.toNat)) x.dir with
   |none=>none
   |some (qs,bs)=>match ig (img.take (64*x.blocks.toNat)) x.used l qs [] (pg++bs) (nz l)with
    |none=>none
    |some (hs,all,lv)=>match oK x.blocks all [0,1]with
     |none=>none
     |some r=>bif lv==0 then(bif decide (r.length=all.length+2)then some (⟨x.blocks,x.cJ,x.g,hs,l.map (·.gen),fr⟩,r)else none)else none))
theorem Zmg {k:Int} {m:jj} (h:sZ img k=some m):nS m=true/\m.kids.length<=12:=by
 unfold sZ at h;cases hl:iU img k with
 |none=>rw[hl]at h;cases h
 |some l=>rw[hl]at h;exact Ke h
theorem P0 {img:aj} : ∀(j:Nat) (ks:ak) (e:bc) (es:List bc) (bs:ak),jl img j ks e=some (es,bs)->∀a∈es,0<=a.slot/\a.slot<1792
 |0,_,_,_,_,h,a,ha=>by cases h;cases ha
 |j+1,ks,e,es,bs,h,a,ha=>by
  unfold jl at h;cases h1:jl img j ks e with
  |none=>rw[h1]at h;cases h
  |some q=>
   obtain⟨wU,wN⟩:=q;have i1:=P0 j ks e wU wN h1;rw[h1]at h;simp only at h;cases h2:sZ img (ks.getD j 0)with
   |none=>rw[h2]at h;cases h
   |some m=>
    rw[h2]at h;simp only at h;cases h3:decide (m.kids.length=j)with
    |false=>rw[h3]at h;cases h
    |true=>
     rw[h3,ae]at h;cases h4:jl img j m.kids m.bI with
     |none=>rw[h4]at h;cases h
     |some q=>
      obtain⟨yo,uY⟩:=q;have i2:=P0 j m.kids m.bI yo uY h4;rw[h4]at h;simp only at h;cases h5:eY e m.bI with
      |false=>rw[h5]at h;cases h
      |true=>
       rw[h5,ae]at h;cases h;rcases gU.1 ha with ha|ha
       .exact i1 a ha
       .rcases dW.1 ha with rfl|ha
        .exact JM (Zmg h2).1
        .exact i2 a ha
theorem ZtB {k:Int} {bs:ak} (h:kF img d k=some (es,bs)): ∀a∈es,0<=a.slot/\a.slot<1792:=by
 unfold kF at h;cases h2:sZ img k with
 |none=>rw[h2]at h;cases h
 |some m=>
  rw[h2]at h;simp only at h;cases h3:decide (m.kids.length=d)with
  |false=>rw[h3]at h;cases h
  |true=>
   rw[h3,ae]at h;cases h4:jl img d m.kids m.bI with
   |none=>rw[h4]at h;cases h
   |some q=>
    obtain⟨yo,uY⟩:=q;rw[h4]at h;cases h;intro a ha;rcases dW.1 ha with rfl|ha
    .exact JM (Zmg h2).1
    .exact P0 d m.kids m.bI yo uY h4 a ha
theorem PV {img:aj} : ∀(r:ak) (i:Nat) (es:List bc) (bs:ak) (gR:List bc) (gB:ak),Z4 img i r es bs=some (gR,gB)->i+r.length<=12->(∀a∈es,0<=a.slot/\a.slot<1792)->es.length+1<=2^i->bs.length=es.length->(∀a∈gR,0<=a.slot/\a.slot<1792)/\gR.length+1<=2^(i+r.length)/\gB.length=gR.length
 |[],i,es,bs,gR,gB,h,_,h1,h2,h3=>by cases h;exact⟨h1,h2,h3⟩
 |k::r,i,es,bs,gR,gB,h,hi,h1,h2,h3=>by
  rw[cO]at hi⊢;unfold Z4 at h;cases hk:(k==0)with
  |true=>
   rw[hk,ae]at h;have:=PV r (i+1) es bs gR gB h (by omega) h1 (by omega) h3;rwa [show i+1+r.length=i+(r.length+1) by omega]at this
  |false=>
   rw[hk,af]at h;cases ht:kF img i k with
   |none=>rw[ht]at h;cases h
   |some q=>
    obtain⟨eQ,fI⟩:=q;rw[ht]at h;obtain⟨l1,l2⟩:=BD ht;have dN:=ZtB ht;have:=PV r (i+1) (es++eQ) (bs++fI) gR gB h (by omega) (by grind) (by rw[bA];omega) (by rw[bA,bA];omega);rwa [show i+1+r.length=i+(r.length+1) by omega]at this
theorem Zui {bs:ak} (h:tI img r=some (es,bs)) (hr:r.length=12):(∀a∈es,0<=a.slot/\a.slot<1792)/\es.length<4096/\bs.length=es.length:=by
 have:=PV r 0 [] [] es bs h (by omega) (λa ha=>by cases ha) (by simp) rfl;rw[hr]at this;grind
theorem Zsb {s:bw} (h:lA img top i=some s):ZM s=true:=by
 unfold lA at h;cases h1:gv img top with
 |none=>rw[h1]at h;cases h
 |some f=>
  rw[h1]at h;simp only at h;cases h2:gv img (f.getD (i/112) 0)with
  |none=>rw[h2]at h;cases h
  |some g=>
   rw[h2]at h;simp only at h;cases h3:jL img (g.getD (i/7%16) 0)with
   |none=>rw[h3]at h;cases h
   |some l=>
    rw[h3]at h;simp only at h;have hm:=qJ h;unfold jL at h3;by_cases hk:g.getD (i/7%16) 0=0
    .rw[bG hk]at h3
     cases h3;rw[List.eq_of_mem_replicate hm];rfl
    .rw[ba hk]at h3
     cases h4:iU img (g.getD (i/7%16) 0)with
     |none=>rw[h4]at h3;cases h3
     |some b=>
      rw[h4]at h3;grind[ZJ]
theorem Q7 {img:aj} {top:Int} {u:Nat} {g:Int} : ∀(c i:Nat) (l l':List bw),kT img top u g c i l=some l'->(∀s∈l,ZM s=true)->l.length=min i u->(∀s∈l',ZM s=true)/\l'.length=min (i+c) u
 |0,i,l,l',h,h1,h2=>by cases h;exact⟨h1,h2⟩
 |c+1,i,l,l',h,h1,h2=>by
  unfold kT at h;cases hf:lA img top i with
  |none=>rw[hf]at h;cases h
  |some s=>
   rw[hf]at h;simp only at h;by_cases hui:u<=i
   .rw[aw hui,ae]at h
    cases hz:nh s with
    |false=>rw[hz]at h;cases h
    |true=>
     rw[hz,ae]at h;have:=Q7 c (i+1) l l' h h1 (by omega);rwa [show i+1+c=i+(c+1) by omega]at this
   .rw[aD hui,af]at h
    cases hz:(decide (s.gen<1)||decide (s.gen>g))with
    |true=>rw[hz]at h;cases h
    |false=>
     rw[hz,af]at h;have:=Q7 c (i+1) (l++[s]) l' h (λa ha=>by
      rcases gU.1 ha with ha|ha
      .exact h1 a ha
      .rw[cx.1 ha];exact Zsb hf) (by rw[bA,iK];omega)
     rwa [show i+1+c=i+(c+1) by omega]at this
theorem Ri {x:dY} (hx:pK x) (h:pQ img x=some (l,pg)):(∀s∈l,ZM s=true)/\(l.length:Int)=x.used/\l.length<=1792/\pg.length<=273:=by
 obtain⟨g1,g2,g3,g4,_,_⟩:=Z2 hx.g;have vF:=hx.u0;have yL:=hx.u1;unfold pQ at h;cases hp:wL img x.bY with
 |none=>rw[hp]at h;cases h
 |some p=>
  rw[hp]at h;simp only at h;cases hd:decide (p.length=(x.used.toNat+6)/7+nY x.used.toNat)with
  |false=>rw[hd]at h;cases h
  |true=>
   rw[hd,ae]at h;cases hs:kT img x.bY x.used.toNat x.g (7*((x.used.toNat+6)/7)) 0 []with
   |none=>rw[hs]at h;cases h
   |some l'=>
    rw[hs]at h;cases h;obtain⟨a1,a2⟩:=Q7 _ _ _ _ hs (λs hs=>by cases hs) (by simp);have hfn:=Zre (a:=x.used.toNat) (by omega);grind
theorem ZjW {s:bw} (h:ZM s=true) (hl:s.live=false):0<=s.block/\s.block<=5000:=by
 grind[ZM,kO]
set_option maxHeartbeats 2000000
open Go.Gv
def zz (a b c:Nat):ah:=[.int .i64 0,.int .i64 0,.int .i64 0,.slice a none 0,.slice b none 0,.slice c none 0]
def tC (st:St) (R:Option (eL×ak)) (o:Out ah×St):Prop:=∃s',aC st s'/\match R with
 |none=>o=(.val [.agg (zz 0 0 0),.slice 0 none 0,.bool false],s')
 |some (y,r)=>∃z1 p1 p2 p3 q,o=(.val [.agg (dD y z1 p1 1 p2 1 p3),.slice 1 q r.length,.bool true],s')/\(z1=2\/p1=none)/\na s' y p1 p2 p3/\Sl s' q (ints r)
theorem Zu3 {l:List ZC} (h:FY l) {x:ZC} (hj:l[j]? =some x):((tc l).drop (j*14+2)).take 12=ints x.c9:=by
 have hx:=h x (qJ hj);refine qH λk=>?_
 rw[wa];split
 .rename_i hk
  rw[Bl,show j*14+2+k=j*14+(2+k) by omega,K0 h hj (2+k) (by omega)];show(DV.str x.name::DV.int .i64 x.mask::ints x.c9)[2+k]? =_;rw[show 2+k=k+1+1 by omega,pE,pE]
 .rw[FN (by rw[Zw,hx.1];omega)]
theorem ZvP {l:List bc} (h:l[j]? =some e):((bK l).drop (j*4)).take 2=[.int .i64 e.slot,.int .i64 e.gen]:=by
 have:=DS h;have h2:=congrArg (List.take 2) this;rw[Dk]at h2;exact h2
theorem Zum (u:Int) (l:List bw) (h1:es[k]? =some e) (h2:ns[k]? =some w):iO u l (es.drop k) (ns.drop k)=bif js u l e w then iO u l (es.drop (k+1)) (ns.drop (k+1))else false:=by
 obtain⟨a1,a2⟩:=eK.1 h1;obtain⟨b1,b2⟩:=eK.1 h2;rw[iC a1,iC b1,a2,b2];rfl
theorem Zpr (k:Nat) {s:St} : ∀ {ds:ah} {xs:List di},iZ s ds xs->iZ (kh k s) ds xs
 |_,[],h=>h
 |_,_::_,⟨z,p,t,hz,h1,h2,h3⟩=>⟨z,p,t,hz,h1,h2.fK k,Zpr k h3⟩
theorem Zue (l:List bw) (s:bw):nz (l++[s])=nz l+(bif s.live then 1 else 0):=by
 grind[nz]
theorem Zr1 (l:List bw):nz l<=l.length:=List.length_filter_le _ _
theorem Zog (n:Nat) (img:aj) (x:dY) (pc:ai) (st:St) (hl:img.length<1000000) (hc:Sl st pc (ints x.aL)) (cL:x.aL.length<1000) (hn:80000<=n):
  Ok (tC st (tL img x)) (run Bd n 211 [.str img,.agg (dO x pc)] st):=by
 obtain⟨n,rfl⟩: ∃m,n=m+1:=⟨n-1,by omega⟩;rw[Ze,h.abB];unfold OX JH aY az Hb oC ZH cy Oe cm qV Zn lN Zgs N_ D6 ZD tD gK pP Zm sE nM wq zC eH fW Lb ja eU tw zy Li;simp only[bO];rw[de];have CH:=λs1 (hp:aC st s1)=>Om n x pc s1 (hc.mono hp) cL
 have yI:=λim (hi:im.length<1000000) (hx:pK x) s1=>Zos n im x pc s1 hi hx (by omega)
 have eO:=λ(l:List bw) z p s1 hz hs gS nu hr hf=>Zp2 n l z p x pc s1 hz hs gS nu hr hf (by omega)
 unfold dO at CH yI eO⊢;simp only[av,bd,aq,kl];obtain⟨R,hR⟩: ∃R,tL img x=R:=⟨_,rfl⟩;rw[hR];have bad: ∀s',aC st s'->R=none->Ok (tC st R) ((cu st.length [.agg [.int .i64 0,.int .i64 0,.int .i64 0,.slice 0 none 0,.slice 0 none 0,.slice 0 none 0],.slice 0 none 0,.bool false]:M ah) s'):=λs' hp hn=>by
  rw[hn,Zu];exact .mk ⟨_,Zv hp,rfl⟩
 unfold tL at hR;refine Ok.call (CH st (.refl st)) ?_;rintro _ ⟨s1,rfl,aH⟩;refine⟨_,s1,rfl,?_⟩;simp only[au,aq];rw[Za];cases hS:iN x with
 |false=>
  rw[hS,bm,ae]at hR;rw[bm,ae];simp only[au,aq];rw[ae];exact bad s1 aH hR.symm
 |true=>
 have hx:=(zH x).1 hS;obtain⟨g1,g2,g3,g4,g5,g6⟩:=Z2 hx.g;have xb:=hx.f0;have Cp:=hx.f1;rw[hS,bp,af]at hR;have ediv:ar (((img.length:Nat):Int).tdiv 64)=((img.length/64:Nat):Int):=by
  rw[show((img.length:Nat):Int).tdiv 64=((img.length/64:Nat):Int)from rfl];exact Zc
 rw[bp,af,ediv];simp only[au,aq];by_cases ix:x.blocks>((img.length/64:Nat):Int)
 .rw[aw ix,ae]at hR
  rw[aw ix,ae];grind
 rw[aD ix,af]at hR;rw[aD ix,af];obtain⟨m,hm⟩: ∃m:Nat,x.blocks=(m:Int):=by grind
 have jv:x.blocks.toNat=m:=by omega
 have afa:ar (64*x.blocks)=((64*m:Nat):Int):=by rw[hm,Zc];omega
 rw[jv]at hR;rw[afa,Zb (by rw[aW,bC,bC];omega)];simp only[br];obtain⟨im,Cs⟩: ∃im,img.take (64*m)=im:=⟨_,rfl⟩;have UI:im.length<1000000:=by rw[<-Cs,cV];omega
 rw[Cs]at hR⊢;refine Ok.call (yI im UI hx s1) ?_;rintro o ⟨s2,aV,ho⟩;have sX:=aH.trans aV;cases T9:pQ im x with
 |none=>
  rw[T9]at ho hR;simp only at ho;subst ho;refine⟨_,s2,rfl,?_⟩;simp only[Zf 3 0 none _ (.inr rfl),Zf 1 0 none _ (.inr rfl),au,aq];rw[bm,ae];exact bad s2 sX hR.symm
 |some q=>
 obtain⟨l,pg⟩:=q;rw[T9]at ho hR;obtain⟨V6,px2,rfl,yN,CK⟩:=ho;simp only at hR;obtain⟨l1,l2,l3,l4⟩:=Ri hx T9;refine⟨_,s2,rfl,?_⟩;simp only[bd,au,aq];rw[bp,af];refine Ok.call (eO l 3 V6 s2 (.inl rfl) yN l2 l3 (λs hs fg=>ZjW (l1 s hs) fg) (by omega)) ?_;rintro o ⟨s3,ck,ho⟩;have Fc:=sX.trans ck;have oY:=λs3=>Zqh n im x.dir s3 UI (by omega)
 cases hFr:vg l x with
 |none=>
  rw[hFr]at ho hR;simp only at ho;subst ho;refine⟨_,s3,rfl,?_⟩;simp only[Zf 1 0 none _ (.inr rfl),au,aq];refine Ok.call (oY s3) ?_;rintro o ⟨s4,fG,ho⟩;cases EC:uv im x.dir with
  |none=>
   rw[EC]at ho;simp only at ho;subst ho;refine⟨_,s4,rfl,?_⟩;simp only[Zf 14 0 none _ (.inr rfl),Zf 1 0 none _ (.inr rfl),au,aq];rw[Za,bm,ae];simp only[au,aq];rw[ae];exact bad s4 (Fc.trans fG) hR.symm
  |some q=>
   obtain⟨qs,bs⟩:=q;rw[EC]at ho;obtain⟨z,p,z2,q,rfl,hz,gy,_⟩:=ho;refine⟨_,s4,rfl,?_⟩;simp only[Zf 14 z p _ hz,Zf 1 z2 q _ gy,au,aq];rw[Za,bm,ae];simp only[au,aq];rw[ae];exact bad s4 (Fc.trans fG) hR.symm
 |some fr=>
 rw[hFr]at ho hR;obtain⟨zf,pf,rfl,hzf,oi⟩:=ho;simp only at hR;refine⟨_,s3,rfl,?_⟩;simp only[Zf 1 zf pf _ hzf,au,aq];refine Ok.call (oY s3) ?_;rintro o ⟨s4,fG,ho⟩;have Fe:=Fc.trans fG;cases EC:uv im x.dir with
 |none=>
  rw[EC]at ho hR;simp only at ho;subst ho;refine⟨_,s4,rfl,?_⟩;simp only[Zf 14 0 none _ (.inr rfl),Zf 1 0 none _ (.inr rfl),au,aq];rw[Za,bp,af];simp only[au,aq];rw[bm,ae];exact bad s4 Fe hR.symm
 |some q=>
 obtain⟨qs,bs⟩:=q;rw[EC]at ho hR;obtain⟨z6,px6,z7,px7,rfl,hz6,hz7,hq6,hq7,tZ,agX,agC⟩:=ho;simp only at hR;refine⟨_,s4,rfl,?_⟩;simp only[Zf 14 z6 px6 _ hz6,Zf 1 z7 px7 _ hz7,au,aq];rw[Za,bp,af];simp only[au,aq];rw[af];have hL:=yN.mono (ck.trans fG);have hPg:=CK.mono (ck.trans fG);have hFs:=oi.mono fG;have Lx: ∀s',aC s4 s'->R=none->Ok (tC st R) ((cu st.length [.agg [.int .i64 0,.int .i64 0,.int .i64 0,.slice 0 none 0,.slice 0 none 0,.slice 0 none 0],.slice 0 none 0,.bool false]:M ah) s'):=λs' hp hn=>bad s' (Fe.trans hp) hn
 rw[Zz];obtain⟨s5,hs5⟩: ∃s5,s4++[some (⟨false,[]⟩:bT)]=s5:=⟨_,rfl⟩;have jd:aC s4 s5:=by rw[<-hs5];exact .new _ _
 rw[hs5];have aes:bn s4 s5 (some (s4.length,0)) []:=⟨jd,(by grind)⟩;have r2: ∀K:ah->M ah,dw px2 (pg.length*1) K s5=K (ints pg) s5:=λK=>by
  have:=jf (hPg.mono jd) K;rwa [Zw,<-cT pg.length]at this
 rw[r2];obtain⟨pa1,s6,lE,qb,w8,sT⟩:=aes.sK (β:=ah) (sz:=1) (n:=0) (m:=pg.length) (lim:=8796093022208) (ds:=ints pg) (by omega) rfl (by rw[Zw,cT]) (by omega);rw[sT];rw[iL]at lE;have r7: ∀K:ah->M ah,dw px7 (bs.length*1) K s6=K (ints bs) s6:=λK=>by
  have:=jf (hq7.mono lE.1) K;rwa [Zw,<-cT bs.length]at this
 rw[r7];obtain⟨pa,s7,Ia,hf7,hb7,he7⟩:=lE.sK (β:=ah) (sz:=1) (n:=0+pg.length) (m:=bs.length) (lim:=8796093022208) (ds:=ints bs) (by omega) (by rw[Zw];omega) (by rw[Zw,cT]) (by omega);rw[he7];rw[<-KK]at Ia;have yx:(pg++bs).length=0+pg.length+bs.length:=by rw[bA];omega
 rw[<-yx];obtain⟨Ab,Xk⟩: ∃Ab,pg++bs=Ab:=⟨_,rfl⟩;have agA:Ab.length<=300:=by rw[<-Xk,bA];omega
 rw[Xk]at Ia hR⊢;refine Ok.join λaR lW=>?_
 have CV: ∀(t:St) (j:Nat) (s:bw),Sl t V6 (bP l)->l[j]? =some s->∃i o,V6=some (i,o)/\(∀K:DV->M ah,bF i (j*3+o) K t=K (.bool s.live) t)/\(∀K:DV->M ah,bF i (j*3+o+1) K t=K (.int .i64 s.gen) t)/\∀K:ah->M ah,bQ i (j*3+o) 3 K t=K (ee s) t:=λt j s ht hj=>by
  have sV:=(eK.1 hj).1;obtain⟨i,o,rfl⟩:=ht.cB (by rw[Zx];omega);refine⟨i,o,rfl,λK=>?_,λK=>?_,λK=>?_⟩
  .have:=ht.get (β:=ah) (by rw[Gz hj 0];rfl) K
   exact this
  .have:=ht.get (β:=ah) (by rw[Gz hj 1];rfl) K
   rw[show j*3+o+1=j*3+1+o by omega];exact this
  .rw[ht.wY (k:=j*3) (n:=3) (by rw[Zx];omega),Rz hj]
 refine Zj _ (λc y t=>∃(i WL Nr:Nat) (vR:ai),y=[.agg [.int .i64 x.blocks,.int .i64 x.cJ,.int .i64 x.g,.slice WL none 0,.slice Nr vR i,.slice 1 pf fr.length],.int .i64 ((nz (l.take i):Nat):Int),.int .i64 (i:Int)]/\(Nr=1\/vR=none)/\i<=l.length/\l.length-i<=c/\bn s4 t vR (ints ((l.take i).map (·.gen)))/\bn s4 t pa (ints Ab)/\(∀b∈aM vR,b∉aM pa)) ?_ l.length n _ _ ⟨0,0,0,none,by rw[hm];rfl,.inr rfl,cE _,by omega,.nil Ia.1,Ia,λb hb=>by cases hb⟩ (by omega);rintro c y t ⟨i,WL,Nr,vR,rfl,afg,hi,LW,yE,lF,LZ⟩ Be X8;rw[de];simp only[av,Zf 2 WL none _ (.inr rfl),Zf 1 Nr vR _ afg,bd,aq];by_cases ax:i<l.length
 .have cZ:l[i]? =some l[i]:=cg ax
  have fZ:l.take (i+1)=l.take i++[l[i]]:=mV ax;generalize l[i]=s at cZ fZ;obtain⟨pi,po,e1,CU,ld1,_⟩:=CV t i s (hL.mono lF.1) cZ;have lC:(ints ((l.take i).map (·.gen))).length=i*1:=by rw[Zw,uG,cV];omega
  rw[aw (by omega),ae,e1,aZ,Zb (Zi ax)];simp only[br];rw[ld1];simp only[aX];have j1:aC t (t++[some ⟨false,[.int .i64 s.gen]⟩]):= .new _ _;rw[Zz,ko (f:=false) (all:=[.int .i64 s.gen]) (by simp) (by simp),dA,dH (by simp)];obtain⟨pg6,u6,UW,adF,adq,adC⟩:=(yE.mono j1).sK (β:=ah) (sz:=1) (n:=i) (m:=1) (lim:=8796093022208) (ds:=[.int .i64 s.gen]) (by omega) lC rfl (by omega);rw[adC];have aeg:bn s4 u6 pa (ints Ab):=(lF.mono j1).wX adF (λb hb cU=>LZ b cU hb) UW.1;obtain⟨pi2,po2,e2,afm,_,_⟩:=CV u6 i s (hL.mono UW.1) cZ;rw[e1]at e2;cases e2;rw[aZ,Zb (Zi ax),afm];simp only[tq];have EW:=Zr1 (l.take i);rw[cV]at EW;have dS: ∀lv:Int,lv=((nz (l.take (i+1)):Nat):Int)->Ok (tC st R) (Be [.agg [.int .i64 x.blocks,.int .i64 x.cJ,.int .i64 x.g,.slice 2 none 0,.slice 1 pg6 (i+1),.slice 1 pf fr.length],.int .i64 lv,.int .i64 (ar ((i:Int)+1))] u6):=λlv fg=>by
   rw[Zc,fg];have halt:=lF.oq;refine X8 (l.length-(i+1)) _ _ (by omega) ⟨i+1,2,1,pg6,rfl,.inl rfl,by omega,aO _,?_,aeg,λb hb cU=>?_⟩
   .rw[fZ,fB,show(List.map (·.gen) [s])=[s.gen]from rfl,Ky]
    exact UW
   .rcases adq b hb with h1|h1
    .exact LZ b h1 cU
    .have:=halt b cU
     have:=j1.len;omega
  have Cx:nz (l.take (i+1))=nz (l.take i)+(bif s.live then 1 else 0):=by rw[fZ,Zue]
  rw[Za];cases fg:s.live with
  |true=>
   rw[fg,ae]at Cx;rw[ae];simp only[av,aq];exact dS _ (by rw[Zc,Cx];rfl)
  |false=>
   rw[fg,af,gV]at Cx;rw[af];simp only[av,aq];exact dS _ (by rw[Cx];rfl)
 rw[aD (by omega),af,lW];rw[dH (by omega)]at yE⊢;have jX:i=l.length:=by omega
 subst jX;clear lW aR Be X8;show Ok (tC st R) (bj [DV.agg _,DV.int .i64 _] _ t);rw[de];simp only[av,bd,Zf 2 2 none _ (.inr rfl),aq];refine Ok.join λbz AJ=>?_
 have EW:=Zr1 l;obtain⟨gs,xd⟩: ∃gs,l.map (·.gen)=gs:=⟨_,rfl⟩;have adO:gs.length=l.length:=by rw[<-xd,uG]
 rw[xd]at yE hR;rw[<-adO];have aeE:aC s4 t:=lF.1;refine Zj _ (λc y u=>∃(i za zb zc zh:Nat) (pa ph:ai) (all:ak) (hs:List di) (hd:ah) (lv:Int),y=[.agg (zz za zb zc),.slice 1 pa all.length,.agg [.int .i64 x.blocks,.int .i64 x.cJ,.int .i64 x.g,.slice zh ph hs.length,.slice 1 vR gs.length,.slice 1 pf fr.length],.int .i64 lv,.int .i64 (i:Int)]/\(zh=2\/ph=none)/\i<=qs.length/\qs.length-i<=c/\bn s4 u pa (ints all)/\bn s4 u ph hd/\hd.length=hs.length*2/\pJ u (aM pa++aM ph) hd hs/\bn s4 u vR (ints gs)/\(∀b∈aM pa,b∉aM ph)/\(∀b∈aM vR,b∉aM pa/\b∉aM ph)/\ig im x.used l qs [] Ab (nz l)=ig im x.used l (qs.drop i) hs all lv/\hs.length=i/\all.length<=300+4096*i/\(-4096*(i:Int)<=lv/\lv<=1792)) ?_ qs.length n _ _ ⟨0,0,0,0,2,pa,none,Ab,[],[],((nz l:Nat):Int),rfl,.inr rfl,cE _,by omega,lF,.nil aeE,rfl,rfl,yE,λb hb cU=>(by cases cU),λb hb=>⟨LZ b hb,λcU=>by cases cU⟩,by rw[dA],rfl,by omega,by omega⟩ (by omega);clear LZ lF yE Ia he7;rintro c2 y2 u ⟨i,za,zb,zc,zh,pa,ph,all,hs,hd,lv,rfl,hzh,hi,LW,lF,UZ,AF,hho,yE,sS,jb,yM,hhi,agz,fg⟩ dt j4;rw[de];unfold zz;simp only[av,Zf 2 za none _ (.inr rfl),Zf 1 zb none _ (.inr rfl),Zf 1 zc none _ (.inr rfl),bd,aq];rw[de];simp only[av,Zf 2 zh ph _ hzh,bd,aq];by_cases ax:i<qs.length
 .have cZ:qs[i]? =some qs[i]:=cg ax
  have fE:qs.drop i=qs[i]::qs.drop (i+1):=iC ax;have MB:=tZ _ (jP ax);generalize qs[i]=q at cZ fE MB;have hQu:=hq6.mono lF.1;obtain⟨i7,o7,rfl⟩:=hQu.cB (by rw[G0 tZ];omega);rw[fE]at yM;rw[aw (by omega),ae];refine Ok.join λgG adW=>?_
  rw[aZ,Zb (Zi ax)];simp only[br];rw[show i*14+o7+2=i*14+2+o7 by omega,hQu.wY (k:=i*14+2) (n:=12) (by rw[G0 tZ];omega),Zu3 tZ cZ,bD (by rw[Zw];exact MB.1)];refine Ok.call (Zn0 n im q.c9 u UI MB.1 (by omega)) ?_;rintro o ⟨u1,Ih,ho⟩;have Mr:=lF.mono Ih;have dS:ig im x.used l (q::qs.drop (i+1)) hs all lv=(match tI im q.c9 with
   |none=>none
   |some (es,ns)=>bif iO x.used l es ns then ig im x.used l (qs.drop (i+1)) (hs++[⟨q.name,Z0 es⟩]) (all++ns) (lv-es.length)else none):=rfl
  have fail: ∀u',aC s4 u'->ig im x.used l (q::qs.drop (i+1)) hs all lv=none->Ok (tC st R) ((cu st.length [.agg [.int .i64 0,.int .i64 0,.int .i64 0,.slice 0 none 0,.slice 0 none 0,.slice 0 none 0],.slice 0 none 0,.bool false]:M ah) u'):=λu' hp hf=>Lx u' hp (by rw[yM,hf]at hR;exact hR.symm)
  cases TX:tI im q.c9 with
  |none=>
   rw[TX]at ho dS;simp only at ho;subst ho;refine⟨_,u1,rfl,?_⟩;simp only[Zf 4 0 none _ (.inr rfl),Zf 1 0 none _ (.inr rfl),au,aq];rw[bm,ae];exact fail u1 Mr.1 dS
  |some qq=>
  obtain⟨es,ns⟩:=qq;rw[TX]at ho dS;obtain⟨p68,p69,rfl,hE,hN,hNn,hEn⟩:=ho;simp only at dS;refine⟨_,u1,rfl,?_⟩;simp only[bd,au,aq];rw[bp,af];obtain⟨fo1,fo2,fo3⟩:=Zui TX MB.1;have hL1:=hL.mono Mr.1;refine Ok.join λgH XN=>?_
  refine Zj _ (λc y v=>∃(k za zb zc:Nat),y=[.agg (zz za zb zc),.int .i64 (k:Int)]/\k<=es.length/\es.length-k<=c/\v=u1/\iO x.used l es ns=iO x.used l (es.drop k) (ns.drop k)) ?_ es.length n _ _ ⟨0,2,1,1,rfl,cE _,by omega,rfl,by rw[dA,dA]⟩ (by omega);rintro c3 y3 v ⟨k,za,zb,zc,rfl,hk,od,rfl,oh⟩ uw MC;rw[de];unfold zz;simp only[av,Zf 2 za none _ (.inr rfl),Zf 1 zb none _ (.inr rfl),Zf 1 zc none _ (.inr rfl),aq];by_cases gE:k<es.length
  .have sU:es[k]? =some es[k]:=cg gE
   have hem:=fo1 _ (jP gE);generalize es[k]=e at sU hem;have qc:ns[k]? =some (ns.getD k 0):=by
    rw[cg (by omega),dZ,cg (by omega)];rfl
   have XH:(ints ns)[k]? =some (.int .i64 (ns.getD k 0)):=xU;generalize ns.getD k 0=w at qc XH;have L9:=Zum x.used l sU qc;rw[L9]at oh;obtain⟨i10,o10,e68⟩:=hE.cB (by rw[Zq];omega);obtain⟨i12,o12,e69⟩:=hN.cB (by rw[Zw];omega);rw[e68]at hE;rw[e69]at hN;rw[aw (by omega),ae,e68,aZ,Zb (Zi gE)];simp only[br];rw[hE.wY (k:=k*4) (n:=2) (by rw[Zq];omega),ZvP sU];simp only[av,aq];rw[Za];have Je:js x.used l e w=false->Ok (tC st R) ((cu st.length [.agg [.int .i64 0,.int .i64 0,.int .i64 0,.slice 0 none 0,.slice 0 none 0,.slice 0 none 0],.slice 0 none 0,.bool false]:M ah) v):=λhb=>by
    rw[hb,af]at oh;rw[oh,af]at dS;exact fail v Mr.1 dS
   by_cases MH:e.slot>=x.used
   .rw[aw MH,ae]
    simp only[au,aq];rw[ae];exact Je (by unfold js;rw[aw MH];rfl)
   .obtain⟨sl,dN⟩: ∃sl:Nat,e.slot=(sl:Int):=⟨e.slot.toNat,by omega⟩
    have aeZ:sl<l.length:=by omega
    have UF:l[sl]? =some l[sl]:=cg aeZ;generalize l[sl]=s at UF;obtain⟨pi,po,e1,_,_,ldc⟩:=CV v sl s hL1 UF;have rr:js x.used l e w=((s.live==true)&&((s.gen==e.gen)&&((s.block==w)&&true))):=by
     unfold js;rw[aD MH,dN,br,UF];rfl
    rw[aD MH,af,e1,aZ,dN,Zb (Zi)];simp only[br];rw[ldc];unfold ee;simp only[au,av,aq];rw[e69,aZ,Zb (Zi (show k<ns.length by omega)),hN.dF XH];simp only[aX,au,aq];rw[<-rr];cases Xy:js x.used l e w with
    |false=>
     rw[bm,ae];exact Je Xy
    |true=>
     rw[Xy,ae]at oh;rw[bp,af,Zc];exact MC (es.length-(k+1)) _ _ (by omega) ⟨k+1,2,1,1,rfl,by omega,aO _,rfl,oh⟩
  rw[aD (by omega),af,XN];rw[ke (by omega)]at oh;have adG:iO x.used l es ns=true:=oh;rw[adG,ae]at dS;clear MC uw XN gH oh;show Ok (tC st R) (bj [DV.agg _] _ v);rw[de];simp only[av,bd,aq];have r9: ∀K:ah->M ah,dw p69 (ns.length*1) K v=K (ints ns) v:=λK=>by
   have:=jf hN K;rwa [Zw,<-cT ns.length]at this
  rw[r9];have aew:=lF.oq;have U7:=UZ.oq;have X5:=yE.oq;have huv:=Ih.len;obtain⟨IU,u2,df,nn,cU,xa⟩:=Mr.sK (β:=ah) (sz:=1) (n:=all.length) (m:=ns.length) (lim:=8796093022208) (ds:=ints ns) (by omega) (by rw[Zw,cT]) (by rw[Zw,cT]) (by omega);rw[xa];have ag4:=nn.1;have hQ2:=hq6.mono df.1;have rB:(tc qs)[i*14]? =some (.str q.name):=by
   have:=K0 tZ cZ 0 (by omega);rw[gV]at this;rw[this];rfl
  rw[aZ,Zb (Zi ax)];rw[hQ2.get rB];simp only[wh];have hE2:Sl u2 p68 (bK es):=hE.fx nn (xW λb hb cU=>by have:=hEn b hb;have:=aew b cU;omega);refine Ok.lT (ZnA n es 4 p68 u2 (.inl rfl) hE2 (by omega) (by omega)) ?_;rintro _ ⟨xG,u3,rfl,Fg,Ci,hSn⟩;refine⟨_,u3,rfl,Fg,?_⟩;simp only[bd,aq];have j1:aC u3 (u3++[some ⟨false,ju ⟨q.name,Z0 es⟩ 4 xG⟩]):= .new _ _;have hhz:([.str q.name,.slice 4 xG (Z0 es).length]:ah)=ju ⟨q.name,Z0 es⟩ 4 xG:=rfl;rw[hhz,Zz,ko (f:=false) (all:=ju ⟨q.name,Z0 es⟩ 4 xG) (by simp) (by show 0+2<=2;omega),dA,dH (show(ju _ _ _).length<=2 from aO _)];have X7:aC s4 u2:=df.1;have aej:bn s4 (u3++[some ⟨false,ju ⟨q.name,Z0 es⟩ 4 xG⟩]) ph hd:=(((UZ.mono Ih).wX nn (λb hb cU=>sS b cU hb) X7).mono Fg).mono j1;have aei:bn s4 (u3++[some ⟨false,ju ⟨q.name,Z0 es⟩ 4 xG⟩]) vR (ints gs):=(((yE.mono Ih).wX nn (λb hb cU=>(jb b hb).1 cU) X7).mono Fg).mono j1;obtain⟨ph5,u5,oX,lV,Cl,HM⟩:=aej.sK (β:=ah) (sz:=2) (n:=hs.length) (m:=1) (lim:=1759218604441) (ds:=ju ⟨q.name,Z0 es⟩ 4 xG) (by omega) AF rfl (by omega);rw[HM,adW];have ag1:=Fg.len;have ag2:=j1.len;have X4:=df.oq;have hSl:=Ci.oq;have hFL:Fx (aM pa++aM ph) u u5:=(Fx.pre _ Ih).trans ((nn.mono λb hb=>List.mem_append_left _ hb).trans ((Fx.pre _ (Fg.trans j1)).trans (lV.mono λb hb=>List.mem_append_right _ hb)));have Xw: ∀b∈aM IU,b∉aM ph:=λb hb nl=>by
   rcases cU b hb with h1|h1
   .exact sS b h1 nl
   .have:=U7 b nl;omega
  have aef:bn s4 u5 IU (ints all++ints ns):=((df.mono Fg).mono j1).wX lV Xw oX.1;have adQ:=hho.fx (L':=aM IU++aM ph5) hFL λb hb=>by
   rcases gU.1 hb with hb|hb
   .rcases cU b hb with h1|h1
    .exact .inl (List.mem_append_left _ h1)
    omega
   .rcases Cl b hb with h1|h1
    .exact .inl (List.mem_append_right _ h1)
    omega
  have EE:Sl u5 xG (bK (Z0 es)):=(Ci.mono j1).fx lV (xW λb hb nl=>by have:=hSn b hb;have:=U7 b nl;omega);have adR:=adQ.push (x:=⟨q.name,Z0 es⟩) (z:=4) (p:=xG) (.inl rfl) EE (xW λb hb nl=>by
   have h1:=hSn b hb;have h2:=hSl b hb;rcases gU.1 nl with nl|nl
   .have:=X4 b nl;omega
   .rcases Cl b nl with h3|h3
    .have:=U7 b h3;omega
    .omega)
  show Ok (tC st R) (bj [DV.agg _,DV.slice 1 IU _,DV.agg _,DV.int .i64 _] _ u5);rw[de];simp only[av,bd,aq];rw[de];simp only[av,bd,aq];rw[Zc (x:=lv-(es.length:Int)),Zc];refine j4 (qs.length-(i+1)) _ _ (by omega) ⟨i+1,2,1,1,2,IU,ph5,all++ns,hs++[⟨q.name,Z0 es⟩],hd++ju ⟨q.name,Z0 es⟩ 4 xG,lv-es.length,?_,.inl rfl,by omega,aO _,by rw[KK];exact aef,oX,?_,adR,aei.wX lV (λb hb nl=>(jb b hb).2 nl) oX.1,λb hb nl=>?_,λb hb=>⟨λnl=>?_,λnl=>?_⟩,?_,?_,?_,by omega⟩
  .rw[bA,bA,iK]
   rfl
  .rw[bA,bA,iK,AF]
   show _+2=_;omega
  .rcases Cl b nl with h1|h1
   .exact Xw b hb h1
   .have:=X4 b hb;omega
  .rcases cU b nl with h1|h1
   .exact(jb b hb).1 h1
   .have:=X5 b hb;omega
  .rcases Cl b nl with h1|h1
   .exact(jb b hb).2 h1
   .have:=X5 b hb;omega
  .rw[yM,dS]
  .rw[bA,iK,hhi]
  .rw[bA];omega
 rw[aD (by omega),af,AJ];rw[ke (by omega)]at yM;have afc:ig im x.used l qs [] Ab (nz l)=some (hs,all,lv):=yM;rw[afc]at hR;simp only at hR;clear j4 dt AJ bz yM;show Ok (tC st R) (bj [DV.agg _,DV.slice 1 pa _,DV.agg _,DV.int .i64 _] _ u);rw[de];simp only[av,bd,aq];rw[de];simp only[av,bd,aq];rw[Zz];obtain⟨u9,Vr⟩: ∃u9,u++[some (⟨false,[.int .i64 0,.int .i64 1]⟩:bT)]=u9:=⟨_,rfl⟩;have Vb:aC u u9:=by rw[<-Vr];exact .new _ _
 have hr9:Sl u9 (some (u.length,0)) (ints [0,1]):=⟨false,[.int .i64 0,.int .i64 1],by rw[<-Vr];simp,by simp[ints],by simp[ints]⟩;rw[Vr];refine Ok.join λca AK=>?_
 refine Zj _ (λc y v=>∃(k za zb zc zr:Nat) (pr:ai) (r:ak),y=[.agg (zz za zb zc),.slice zr pr r.length,.int .i64 (k:Int)]/\(zr=1\/pr=none)/\k<=all.length/\all.length-k<=c/\aC u9 v/\Sl v pr (ints r)/\kN r/\r.length<=k+2/\oK x.blocks all [0,1]=oK x.blocks (all.drop k) r) ?_ all.length n _ _ ⟨0,2,1,1,1,some (u.length,0),[0,1],rfl,.inl rfl,cE _,by omega,.refl _,hr9,(by unfold kN;simp),aO _,by rw[dA]⟩ (by omega);rintro c4 y4 v ⟨k,za2,zb2,zc2,zr,pr,r,rfl,IC,hk,od,uo,Is,Io,CG,Fi⟩ aU aeM;rw[de];unfold zz;simp only[av,Zf 2 za2 none _ (.inr rfl),Zf 1 zb2 none _ (.inr rfl),Zf 1 zc2 none _ (.inr rfl),Zf 1 zr pr _ IC,aq];have Ii:aC s4 v:=lF.1.trans (Vb.trans uo);have As:=lF.sl.mono (Vb.trans uo);by_cases gE:k<all.length
 .have fE:=Hc gE
  obtain⟨w,hw⟩: ∃w,all.getD k 0=w:=⟨_,rfl⟩;rw[hw]at fE;have qc:(ints all)[k]? =some (.int .i64 w):=by rw[<-hw];exact xU gE
  obtain⟨i3,o3,e3⟩:=As.cB (by rw[Zw];omega);rw[e3]at As;rw[fE]at Fi;have dS:oK x.blocks (w::all.drop (k+1)) r=bif decide (w<2)then none else(bif decide (w∈r)then none else oK x.blocks (all.drop (k+1)) (xu x.blocks r w)):=rfl;have fail:oK x.blocks (w::all.drop (k+1)) r=none->Ok (tC st R) ((cu st.length [.agg [.int .i64 0,.int .i64 0,.int .i64 0,.slice 0 none 0,.slice 0 none 0,.slice 0 none 0],.slice 0 none 0,.bool false]:M ah) v):=λhf=>Lx v Ii (by rw[Fi,hf]at hR;exact hR.symm)
  rw[aw (by omega),ae,e3,aZ,Zb (Zi gE)];simp only[br];rw[As.dF qc];simp only[aX];rw[Za];by_cases fM:w<2
  .rw[aw fM,ae]at dS
   rw[aw fM,ae];simp only[au,aq];rw[ae];exact fail dS
  .rw[aD fM,af]at dS
   rw[aD fM,af,aZ,Zb (Zi gE),As.dF qc];simp only[aX];refine Ok.call (BC n 1 r w pr v (.inl rfl) Is) ?_;rintro _ rfl;refine⟨_,v,rfl,?_⟩;simp only[au,aq];cases hwr:decide (w∈r)with
   |true=>
    rw[hwr,ae]at dS;rw[ae];exact fail dS
   |false=>
    rw[hwr,af]at dS;rw[af,aZ,Zb (Zi gE),As.dF qc];simp only[aX];refine Ok.call (Zk5 n r 1 pr x.blocks w v (.inl rfl) Is Io) ?_;rintro _ ⟨p2,r2,v2,rfl,aeG,aeU,jH,gF⟩;refine⟨_,v2,rfl,?_⟩;simp only[bd,aq];obtain⟨c1,c2⟩:=KY (m:=x.blocks) (a:=w) Io;have aeK:r2=xu x.blocks r w:=Gq jH c1 λb=>by rw[gF,c2]
    have aeL:r2.length<=(w::r).length:=BI jH.nodup λb hb=>by
     rcases(gF b).1 hb with h1|h1
     .exact wb _ h1
     .rw[h1.1];exact sb
    rw[cO]at aeL;rw[Zc];exact aeM (all.length-(k+1)) _ _ (by omega) ⟨k+1,2,1,1,1,p2,r2,rfl,.inl rfl,by omega,aO _,uo.trans aeG,aeU,jH,by omega,by rw[Fi,dS,aeK]⟩
 rw[aD (by omega),af,AK];rw[ke (by omega)]at Fi;have aeN:oK x.blocks all [0,1]=some r:=Fi;rw[aeN]at hR;simp only at hR;show Ok (tC st R) (bj [DV.agg _,DV.slice 1 pr _] _ v);rw[de];simp only[av,bd,aq];rw[Za,Zc (x:=((all.length:Nat):Int)+2)];have aeP:(((r.length:Nat):Int)==((all.length:Nat):Int)+2)=decide (r.length=all.length+2):=nf r.length (all.length+2) _;cases XQ:(lv==0)with
 |false=>
  rw[XQ,af]at hR;rw[bm,ae];simp only[au,aq];rw[ae];exact Lx v Ii hR.symm
 |true=>
  rw[XQ,ae]at hR;rw[bp,af,aeP];simp only[au,aq];cases kV:decide (r.length=all.length+2)with
  |false=>
   rw[kV,af]at hR;rw[bm,ae];exact Lx v Ii hR.symm
  |true=>
   rw[kV,ae]at hR;rw[bp,af,Zu];refine .mk ⟨_,Zv (Fe.trans Ii),?_⟩;rw[<-hR];have Vc:=Vb.trans uo;have hhh:=hho.aS.mono Vc;refine⟨2,ph,vR,pf,pr,rfl,.inl rfl,⟨⟨hd,(UZ.sl.mono Vc).fK _,?_⟩,(yE.sl.mono Vc).fK _,(hFs.mono Ii).fK _⟩,Is.fK _⟩;exact Zpr _ hhh
end Go.Gv.F
