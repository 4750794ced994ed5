/- Lists without twins. -/
import Derived.Test.YtegglibipjjblaaGreatDoorGvMOk2
set_option linter.all false
namespace Go.Gv.F
open Go.Gv
theorem B4 {α:Type} [DecidableEq α]: ∀ {l m:List α},l.Nodup->(∀x∈l,x∈m)->l.length<=m.length
 |[],m,_,_=>cN _
 |a::l,m,hn,hs=>by
  rw[qQ]at hn;have ha:=hs a Do;have hle:=List.length_erase_of_mem ha;have xN:=List.length_pos_of_mem ha;have:=B4 (m:=m.erase a) hn.2 λy hy=>(List.mem_erase_of_ne (λe':y=a=>hn.1 (by rw[<-e'];exact hy))).2 (hs y (by simp[hy]))
  rw[cQ];omega
variable {dx place:Int} {es eu:List aP} {i j k n t u used:Nat} {P Q:Nat->Prop} {v:aI} {e par:aP} {C D E Z l s:aj} {A At free gens:ak} {K:bu} {m m':cd}
theorem WT (h:k<256):(ta (k:Int)).toNat=k:=by
 unfold ta;show((k:Int)%256).toNat%256=k;omega
theorem DP (n:Nat):ZB (ZR n)=true:=by
 simp[ZB,ZR]
theorem Zw7 {b:aj} (h:b.length<=56):(ez b 56).length=56:=by
 grind[ez,ZR]
theorem Zx1 {k t:Int} {b:aj} (h:b.length<=56):(qL k t b).length=60:=by
 unfold qL;rw[ba,Zw7 h];rfl
theorem Ar {k t:Int} {b:aj} (h:b.length<=56:=by omega):(gK k t b).length=64:=by
 unfold gK;rw[ba,Zr,Zx1 h]
theorem yx {b:aj} (mV:0<k) (hk:k<256) (ht:t<256:=by omega) (h:b.length<=56:=by omega):eK (gK k t b)=some (k,t,ez b 56):=by
 have hl:(gK k t b).length=64:=Ar h;have Yp:(gK k t b).drop 4=qL k t b:=by
  rfl
 have EV:(gK k t b).take 4=bB (tO (qL k t b)) 4:=by
  rfl
 have hg: ∀j,(gK k t b).getD (4+j) 0=(qL k t b).getD j 0:=Fd
 have g4:(gK k t b).getD 4 0=ta k:=hg 0;have g5:(gK k t b).getD 5 0=ta t:=hg 1;have d6:((gK k t b).drop 6).take 2=[0,0]:=by
  rfl
 have d8:(gK k t b).drop 8=ez b 56:=by
  rfl
 have hr:nU (gK k t b)=true:=by
  unfold nU;rw[hl,g4,d6,Yp,EV,V0];have h1:(ta (k:Int)==0)=false:=by
   rw[dM];intro e;have:=congrArg UInt8.toNat e;rw[WT hk]at this;grind
  have hc:=WM (qL k t b);rw[h1,Mj AC];simp[ZB]
 unfold eK;rw[hr,ae,g4,g5,d8,WT hk,WT ht]
theorem Xh (A C:aj) (v n:Nat):rd (A++(bB v n++C)) A.length n=v%256^n:=by
 unfold rd;rw[uD,QG (by rw[Zr];exact aJ _),dG (by rw[Zr];exact aJ _),V0]
theorem vU {A:aj} {v:Nat} (hl:l=A++(bB v n++C)) (hk:A.length=k) (hv:v<256^n:=by omega) (vz:v<9223372036854775808:=by omega):bL l k n=(v:Int):=by
 subst hl;subst hk;unfold bL;rw[Xh,Mj hv];exact Zb
theorem VC {A:aj} {v:Int} (hl:l=A++(bB (bM v) 8++C)) (hk:A.length=k) (hv: -9223372036854775808<=v/\v<=9223372036854775807):bL l k 8=v:=by
 subst hl;subst hk;unfold bL;have h8:(256:Nat)^8=18446744073709551616:=EQ
 have av:=tF v;rw[Xh,Mj AC];have e:aq (bM v:Int)=v:=by
  unfold bM;show IntKind.wrap .i64 _=v;rw[IntKind.wrap_i64];omega
 exact e
theorem vS {v:Int} (h0:0<=v:=by omega) (h1:v<9223372036854775808:=by omega):(bM v:Int)=v:=by unfold bM;omega
theorem Zuw (l:ak) (h:i<l.length):dJ l=dJ (l.take i)++(bB (bM l[i]) 2++dJ (l.drop (i+1))):=by
 have e:l=l.take i++l[i]::l.drop (i+1):=by
  simp
 grind[dJ]
theorem IQ {A b:aj} (l:ak) (hl: ∀k∈l,0<=k/\k<65536) (hb:b=A++(dJ l++D)) (hA:A.length=n):(List.range l.length).map (λj=>bL b (n+2*j) 2)=l:=by
 refine th λj=>?_
 rw[nf];by_cases hj:j<l.length
 .rw[Fw hj,cc hj]
  have hk:=hl _ (jj hj);have hs:=Zuw l hj;generalize l[j]=k at hk hs;have s2:=vS (v:=k);have e:bL b (n+2*j) 2=(bM k:Int):=by
   refine vU (A:=A++dJ (l.take j)) (C:=dJ (l.drop (j+1))++D) ?_ ?_
   .rw[hb,hs,dL,dL,dL]
   grind[ba,pF,cB]
  grind
 grind
theorem Vc {x:jz} (hk:x.kids.length<=12):eK (oU x)=some (1,x.kids.length,ez (uk x) 56)/\(uk x).length=24+2*x.kids.length:=by
 have hl:(uk x).length=24+2*x.kids.length:=by
  grind[uk,ba,Zr,pF]
 exact⟨yx EQ EQ,hl⟩
theorem Zxi {k:Int} (h:wM k=false):2<=k/\k<3072:=by
 grind[wM]
theorem Zwg {A B b:aj} (h:b=A++B++C++D++E++Z):b=A++(B++(C++(D++(E++Z))))/\b=(A++B)++(C++(D++(E++Z)))/\b=(A++B++C)++(D++(E++Z))/\b=(A++B++C++D)++(E++Z):=by
 grind
theorem ZxP {x:jz} (hr:mb x=true) (YZ: -9223372036854775808<=x.br.key/\x.br.key<=9223372036854775807) (hval: -9223372036854775808<=x.br.value/\x.br.value<=9223372036854775807):iy (oU x)=some x:=by
 have kX:=hr;unfold mb at hr;rw[aS,kN,kN]at hr;simp only[yf,tp]at hr;have⟨⟨r1,r2,r3,r4,r5⟩,r6⟩:=hr;have⟨ho,hl⟩:=Vc (x:=x) AC;have cC:ZB ((ez (uk x) 56).drop (24+2*x.kids.length))=true:=by
  unfold ez;rw[<-hl,uD];exact DP _
 have hS:ez (uk x) 56=bB (bM x.br.key) 8++bB (bM x.br.value) 8++bB (bM x.br.slot) 4++bB (bM x.br.gen) 4++dJ x.kids++ZR (56-(uk x).length):=rfl;have l1:(bB (bM x.br.key) 8).length=8:=Zr _ _;have l2:(bB (bM x.br.value) 8).length=8:=Zr _ _;have l3:(bB (bM x.br.slot) 4).length=4:=Zr _ _;have l4:(bB (bM x.br.gen) 4).length=4:=Zr _ _;have⟨S1,S2,S3,S4⟩:=Zwg hS;have hb:mc (ez (uk x) 56) x.kids.length=x:=by
  generalize ez (uk x) 56=b at S1 S2 S3 S4;have k0:bL b 0 8=x.br.key:=VC (A:=[]) S1 rfl YZ;have k8:bL b 8 8=x.br.value:=VC (A:=bB (bM x.br.key) 8) S1 l1 hval;have s0:=vS (v:=x.br.slot);have s1:=vS (v:=x.br.gen);have k16:bL b 16 4=(bM x.br.slot:Int):=vU S2 (by rw[ba];omega);have k20:bL b 20 4=(bM x.br.gen:Int):=vU S3 (by rw[ba,ba];omega);have kk:pK b x.kids.length=x.kids:=IQ x.kids (λk hk=>by
   have Y0:wM k=false:=by
    have:=(List.any_eq_false.1 r6) k hk;simpa using this
   have:=Zxi Y0;omega) S4 (by rw[ba,ba,ba];omega)
  unfold mc;rw[k0,k8,k16,k20,kk,s0,s1]
 unfold iy;rw[ho];grind
theorem NC {b:aj} (h:eK l=some (k,t,b)) (hk:k≠1):iy l=none:=by
 grind[iy]
theorem Tt {b:aj} (h:eK l=some (k,t,b)) (hk:k≠2):ZI l=none:=by
 grind[ZI]
theorem Znv {b:aj} (h:eK l=some (k,t,b)) (hk:k≠3):ZY l=none:=by
 grind[ZY]
theorem Zsa {b:aj} (h:eK l=some (k,t,b)) (hk:k≠5):ZH l=none:=by
 grind[ZH]
theorem WJ: ∀(l:List aX) (k:Nat),gy k l=2^k*gy 0 l
 |[],k=>by simp[gy]
 |x::r,k=>by
  rw[gy,gy,WJ r (k+1),WJ r 1,tn];grind
theorem ZsY (x:aX) (r:List aX):gy 0 (x::r)=(bif x.live then 1 else 0)+2*gy 0 r:=by
 rw[gy,WJ r 1]
theorem Zvn: ∀(l:List aX) (j:Nat) (x:aX),l[j]? =some x->eN (gy 0 l) j=x.live
 |[],j,x,h=>by simp at h
 |y::r,0,x,h=>by
  simp only[ly,gf]at h;subst h;rw[ZsY];grind[eN]
 |y::r,j+1,x,h=>by
  rw[ZsY,<-Zvn r j x (by simpa using h)];unfold eN;rw[Nat.pow_succ',<-H3];grind
theorem Zt0 (l:List aX) (h:i<l.length):Z3 l=Z3 (l.take i)++(bB (bM l[i].gen) 4++(bB (bM l[i].block) 4++Z3 (l.drop (i+1)))):=by
 have e:l=l.take i++l[i]::l.drop (i+1):=by
  simp
 conv=>lhs;rw[e]
 rw[Uh,Z3,dL]
theorem Zxh {l:List aX} (hl:l.length=7) (hr: ∀x∈l,0<=x.gen/\x.gen<4294967296/\0<=x.block/\x.block<4294967296) {b:aj} (hb:b=Z3 l):ZQ b (gy 0 l) 7=l:=by
 unfold ZQ;refine th λj=>?_
 rw[nf];by_cases hj:j<7
 .have wD:j<l.length:=AC
  rw[Fw hj,cc wD];have ht:=Zvn l j l[j] Do;have hs:=Zt0 l wD;have⟨g0,g1,b0,b1⟩:=hr _ (jj wD);generalize l[j]=x at ht hs g0 g1 b0 b1;have s1:=vS (v:=x.gen);have s2:=vS (v:=x.block);have jT:(Z3 (l.take j)).length=8*j:=by rw[IF,cB];omega
  have e1:bL b (8*j) 4=(bM x.gen:Int):=vU (hb.trans hs) jT;have e2:bL b (8*j+4) 4=(bM x.block:Int):=vU (A:=Z3 (l.take j)++bB (bM x.gen) 4) (C:=Z3 (l.drop (j+1))) (by rw[hb,hs,dL]) (by rw[ba,Zr,jT]);simp_all[wa]
 grind
theorem ZnP {x:aX} (h:oW x=true):ZK x=true/\0<=x.gen/\x.gen<4294967296/\0<=x.block/\x.block<4294967296:=by
 unfold oW at h;rw[aS,kN,yf,tp,tp]at h;have⟨⟨h1,h2⟩,h3⟩:=h;unfold ZK kR;cases hl:x.live
 .rw[hl,af,aS,aS,bq,bq]at h3;grind
 .rw[hl,ae,aS,bq]at h3;grind[iU]
theorem Zuj {l:List aX} (hl:l.length=7) (hr:l.all oW=true): ∃s,qo l=some s/\s.length=64/\ZA s= .leaf l:=by
 have hra: ∀x∈l,oW x=true:=Fd
 have dR:(Z3 l).length=56:=by rw[IF,hl]
 have rG:=V7 0 l;rw[hl]at rG;have ho:eK (gK 2 (gy 0 l:Nat) (Z3 l))=some (2,gy 0 l,ez (Z3 l) 56):=yx (k:=2) EQ EQ;have hf:ez (Z3 l) 56=Z3 l:=by
  simp_all[ez,ZR]
 rw[hf]at ho;have j5:=Zxh hl (λx hx=>(ZnP (hra x hx)).2) rfl;refine⟨_,by unfold qo;rw[hr,ae],Ar,?_⟩;have hg:ZI (gK 2 (gy 0 l:Nat) (Z3 l))=some l:=by
  unfold ZI;rw[ho];simp only;rw[j5,aQ (AC:gy 0 l<128)];have:l.all ZK=true:=qP.2 λx hx=>(ZnP (hra x hx)).1
  rw[this];simp
 unfold ZA;rw[NC ho EQ,hg]
theorem ZuD {x:jz} (hr:mb x=true) (YZ: -9223372036854775808<=x.br.key/\x.br.key<=9223372036854775807) (hval: -9223372036854775808<=x.br.value/\x.br.value<=9223372036854775807):ZA (oU x)= .node x/\(oU x).length=64:=by
 have hk:x.kids.length<=12:=by
  grind[mb]
 refine⟨?_,Ar (by have:=(Vc hk).2;omega)⟩;unfold ZA;rw[ZxP hr YZ hval]
theorem ZtA {l:ak} (hl:l.length=16) (hr: ∀k∈l,k=0\/2<=k/\k<3072): ∃s,mM l=some s/\s.length=64/\ZA s= .bY l:=by
 have fV:(dJ l).length=32:=by rw[pF,hl]
 have dH:(l.all λk=>k==0||iU k)=true:=qP.2 λk hk=>by
  rcases hr k hk with rfl|h
  .rfl
  .grind[iU]
 have hrf:Am l=true:=qP.2 λk hk=>by
  grind[kR]
 have ho:eK (gK 3 ((0:Nat):Int) (dJ l))=some (3,0,ez (dJ l) 56):=yx (k:=3) (t:=0) EQ EQ EQ;have j5:dO (ez (dJ l) 56) 16=l:=by
  have:=IQ (A:=[]) (D:=ZR (56-(dJ l).length)) (b:=ez (dJ l) 56) l Fd rfl rfl;rw[hl]at this;grind[dO]
 have cC:ZB ((ez (dJ l) 56).drop 32)=true:=by
  unfold ez;rw[<-fV,uD];exact DP _
 refine⟨_,by unfold mM;rw[dH,ae],Ar,?_⟩;have hg:ZY (gK 3 0 (dJ l))=some l:=by
  grind[ZY]
 have ho:eK (gK 3 0 (dJ l))=some (3,0,ez (dJ l) 56):=ho;unfold ZA;rw[NC ho EQ,Tt ho EQ,hg]
theorem Zwu {x:ZL} (hl:x.cF.length=12) (hm:x.mask<4096) (hn:pH x.name=true) (Be:x.name.length<=24) (hh: ∀i,i<12->qE x.mask i (x.cF.getD i 0)=true) (hr: ∀k∈x.cF,0<=k/\k<3072):(pZ x).length=64/\ZA (pZ x)= .queue x:=by
 have⟨nm,mask,cF⟩:=x;simp only at hl hm hn Be hh hr;have fV:(dJ cF).length=24:=by rw[pF,hl]
 have hS:(bB (bM mask) 4++dJ cF++nm).length=28+nm.length:=by
  rw[ba,ba,Zr,fV]
 have hu:bM (mask:Int)=mask:=ZAd AC;have ho:eK (gK 5 nm.length (bB (bM mask) 4++dJ cF++nm))=some (5,nm.length,ez (bB (bM mask) 4++dJ cF++nm) 56):=yx (k:=5) EQ EQ;have hb:ez (bB (bM mask) 4++dJ cF++nm) 56=bB (bM mask) 4++(dJ cF++(nm++ZR (56-(28+nm.length)))):=by
  grind[ez]
 have⟨b,yZ⟩: ∃b,ez (bB (bM mask) 4++dJ cF++nm) 56=b:=⟨_,rfl⟩;rw[yZ]at ho hb;have hq:Z1 b nm.length=⟨nm,mask,cF⟩:=by
  have h1:rd b 0 4=mask:=by
   have:=Xh [] (dJ cF++(nm++ZR (56-(28+nm.length)))) (bM mask) 4;rw[gR,<-hb,hu,show([]:aj).length=0 from rfl]at this;rw[this,Mj (AC:mask<4294967296)]
  have h2:ZV b 12=cF:=by
   have:=IQ (A:=bB (bM mask) 4) (D:=nm++ZR (56-(28+nm.length))) (b:=b) cF Fd hb (Zr _ _);rw[hl]at this;exact this
  have h3:(b.drop 28).take nm.length=nm:=by
   rw[hb,<-dL,List.drop_left' (by rw[ba,Zr,fV]),DA]
  grind[Z1]
 have cC:ZB (b.drop (28+nm.length))=true:=by
  rw[<-yZ];unfold ez;rw[<-hS,uD];exact DP _
 have hrq:mL ⟨nm,mask,cF⟩=true:=by
  grind[mL]
 refine⟨Ar Fd,?_⟩;have hg:ZH (pZ ⟨nm,mask,cF⟩)=some ⟨nm,mask,cF⟩:=by
  grind[ZH,pZ]
 have du:eK (pZ ⟨nm,mask,cF⟩)=some (5,nm.length,b):=ho;unfold ZA;rw[NC du EQ,Tt du EQ,Znv du EQ,hg]
theorem Zpq {l:ak} (h:l.Nodup) (hi:i<l.length):l.getD i 0∉l.take i:=by
 rw[cz,cc hi];intro hm;have⟨j,hj,e⟩:=BE hm;rw[cB]at hj;rw[List.getElem_take]at e;have:=(List.getElem_inj (xs:=l) h (h₀:=by omega) (h₁:=hi)).1 e;omega
theorem ZzS {l:ak} (h1:1<=l.length) (qB:l.length<=16) (hr: ∀k∈l,2<=k/\k<3072) (eJ:l.Nodup): ∃s,sf l=some s/\s.length=64/\ZA s= .dir l:=by
 have fV:=pF l;have CH: ∀i,i<l.length->2<=l.getD i 0/\l.getD i 0<3072:=λi hi=>by
  rw[cz,cc hi];simp_all
 have hdo: ∀i,i<=l.length->rj l i=true:=by
  intro i;induction i with
  |zero=>intro _;rfl
  |succ i ih=>
   intro hi;have h2:=CH i AC;unfold rj iU;rw[ih AC,aQ (AC:l.getD i 0>=2),aQ (AC:l.getD i 0<=3071),bP (Zpq eJ (AC:i<l.length))];rfl
 have j5:Al l=true:=by
  unfold Al;rw[aQ h1,aQ qB,dt,dt];refine qP.2 λi hi=>?_
  have hi:=uG.1 hi;have h2:=CH i hi;unfold rh;rw[aQ (AC:l.getD i 0>=2),aQ (AC:l.getD i 0<3072),bP (Zpq eJ hi)];rfl
 have ho:eK (gK 6 l.length (dJ l))=some (6,l.length,ez (dJ l) 56):=yx (k:=6) EQ EQ;have AY:dO (ez (dJ l) 56) l.length=l:=by
  have:=IQ (A:=[]) (D:=ZR (56-(dJ l).length)) (b:=ez (dJ l) 56) l Fd rfl rfl;grind[dO]
 have cC:ZB ((ez (dJ l) 56).drop (2*l.length))=true:=by
  unfold ez;rw[<-fV,uD];exact DP _
 refine⟨_,by unfold sf;rw[aQ h1,aQ qB,hdo _ (aJ _)];rfl,Ar,?_⟩;have hg:kl (gK 6 l.length (dJ l))=some l:=by
  grind[kl]
 unfold ZA;rw[NC ho EQ,Tt ho EQ,Znv ho EQ,Zsa ho EQ,hg]
theorem Us {c:ZS} (h1:c.no<8) (h2:c.fu.length=48):(uQ c).length=64/\yC (uQ c)=some c:=by
 have ho:eK (uQ c)=some (4,c.no,ez c.fu 56):=yx (k:=4) EQ EQ;refine⟨Ar,?_⟩;have cC:ZB ((ez c.fu 56).drop 48)=true:=by
  unfold ez;rw[<-h2,uD];exact DP _
 have ht:(ez c.fu 56).take 48=c.fu:=by
  grind[ez]
 simp_all[yC]
def fX (l:aj) (k:Nat):aj:=(l.drop (64*k)).take 64
structure Ex (m m':cd):Prop where
 len:m'.B.length=m.B.length
 le:m.next<=m'.next
 line: ∀k,k<m.next->fX m'.B k=fX m.B k
theorem Ex.refl (m:cd):Ex m m:=⟨rfl,aJ _,λ_ _=>rfl⟩
theorem Ex.trans {a b c:cd} (h:Ex a b) (k:Ex b c):Ex a c:=⟨k.len.trans h.len,ij h.le k.le,λj hj=>(k.line j (mE hj h.le)).trans (h.line j hj)⟩
theorem Ex.at (h:Ex m m') (l:ak):Ex m { m' with At:=l } :=⟨h.len,h.le,h.line⟩
theorem Zpb {B:aj} (hn:64*n<=B.length) (hk:k<n):fX (qK B (64*n) s) k=fX B k:=by
 grind[fX,qK,BC]
theorem Zxt {B:aj} (hn:64*n+64<=B.length) (hs:s.length=64):fX (qK B (64*n) s) n=s:=by
 grind[fX,qK]
theorem Zpz {B:aj} (hn:64*n+64<=B.length) (hs:s.length=64) (hk:n<k:=by omega):fX (qK B (64*n) s) k=fX B k:=by
 unfold fX qK;have hl:(B.take (64*n)).length=64*n:=by rw[cB];omega
 have mo:(s.take (B.length-64*n)).length=64:=by rw[cB];omega
 rw[List.drop_append,hl,lx AC,gR,List.drop_append,mo,lx AC,gR,kd,hs,show 64*n+64+(64*k-64*n-64)=64*k by omega]
theorem Ex.put (m:cd) (s:aj):Ex m (gx m s):=by
 refine⟨uT m s,Nat.le_succ _,λk hk=>?_⟩;unfold gx;by_cases h:64*m.next+64<=m.B.length
 .rw[aR h]
  exact Zpb AC hk
 grind
theorem ZzE (h:64*m.next+64<=m.B.length) (hs:s.length=64):fX (gx m s).B m.next=s:=by
 unfold gx;rw[aR h];exact Zxt h hs
theorem Ex.fin (es:List aP) (r:ak×cd):Ex r.2 (nZ es r).2:=by
 unfold nZ;cases es with
 |nil=>exact .refl _
 |cons e t=>exact(Ex.put r.2 _).at _
theorem Ex.kids: ∀(j:Nat) (es:List aP) (m:cd),Ex m (cM j es m).2
 |0,_,m=> .refl m
 |j+1,es,m=>((Ex.kids j es m).trans (Ex.kids j _ _)).trans (Ex.fin _ _)
theorem Ex.tree (j:Nat) (es:List aP) (m:cd):Ex m (gM j es m).2:=(Ex.kids j es m).trans (Ex.fin _ _)
theorem Ex.eR (cnt:Nat): ∀(c k:Nat) (hs:ak) (rest:List aP) (m:cd),Ex m (eR cnt c k hs rest m).2
 |0,_,_,_,m=> .refl m
 |c+1,k,hs,rest,m=>by
  unfold F.eR;cases eN cnt k
  .exact Ex.eR cnt c _ _ _ _
  .exact(Ex.tree k _ m).trans (Ex.eR cnt c _ _ _ _)
theorem Ex.gz: ∀(l:List dw) (eM:ak) (m:cd),Ex m (gz l eM m).2
 |[],_,m=> .refl m
 |_x::r,alA,m=>((Ex.eR _ _ _ _ _ m).trans (Ex.put _ _)).trans (Ex.gz r _ _)
theorem Ex.ri (l:List dw) (m:cd):Ex m (ri l m).2:=by
 unfold F.ri;have:=Ex.gz l [] m;generalize F.gz l [] m=t at this;simp only;cases sf t.1 with
 |none=>exact this
 |some s=>exact this.trans (Ex.put _ _)
theorem Ex.iA (gens free:ak): ∀(c f:Nat) (ls:ak) (m:cd),Ex m (iA gens free c f ls m).2
 |0,_,_,m=> .refl m
 |c+1,f,ls,m=>by
  unfold F.iA;cases decide (f<gens.length)
  .exact .refl m
  .exact(Ex.put m _).trans (Ex.iA gens free c _ _ _)
theorem Ex.jn (leaves:ak): ∀(c i:Nat) (top:ak) (m:cd),Ex m (jn leaves c i top m).2
 |0,_,_,m=> .refl m
 |c+1,i,top,m=>by
  unfold F.jn;cases decide (16*i<leaves.length)
  .exact .refl m
  .exact(Ex.put m _).trans (Ex.jn leaves c _ _ _)
theorem Ex.kI (gens free:ak) (m:cd):Ex m (kI gens free m).2:=by
 unfold F.kI;have:=Ex.iA gens free gens.length 0 [] m;generalize F.iA gens free gens.length 0 [] m=t at this;simp only;cases Nat.beq t.1.length 0
 .exact(this.trans (Ex.jn _ _ _ _ _)).trans (Ex.put _ _)
 .exact this
theorem Ex.ku (used:ak): ∀(c i:Nat) (m:cd),Ex m (ku used c i m)
 |0,_,m=> .refl m
 |c+1,_i,m=>(Ex.put m _).trans (Ex.ku used c _ _)
theorem Ex.all (x:dW):Ex (jd x) (F.ku (kL x) (lP x) 0 (fN x).2):=((Ex.ri x.aD (jd x)).trans (Ex.kI x.gens x.free (lh x).2)).trans (Ex.ku _ _ _ _)
theorem M3 {x:cm} (h:ox x):x.aK.length<=8:=by
 have hl:=h.len;have hg:=h.g;have⟨g1,g2,_⟩:=ZM hg;unfold Ax at hl;rw[hg,ae]at hl;unfold p9 at hl;have e1:aq (x.blocks+384)=x.blocks+384:=by
  have⟨m,hm⟩: ∃m:Nat,x.blocks=m:=⟨x.blocks.toNat,AC⟩;rw[hm];exact Zb
 have e2:aq (x.blocks+384-1)=x.blocks+384-1:=by
  have⟨m,hm⟩: ∃m:Nat,x.blocks=m:=⟨x.blocks.toNat,AC⟩;rw[hm,show((m:Int)+384-1)=((m+383:Nat):Int) by omega];exact Zb
 rw[e1,e2,L9 AC]at hl;have e3:aq ((x.blocks+384-1)/384)=(x.blocks+384-1)/384:=by
  have⟨m,hm⟩: ∃m:Nat,(x.blocks+384-1)/384=m:=⟨((x.blocks+384-1)/384).toNat,AC⟩;rw[hm];exact Zb
 rw[e3]at hl;omega
theorem VY (x:cm):(zT x).length=32+2*x.aK.length:=by
 grind[zT,ba,Zr,pF]
theorem ZuU {x:cm} (h:ox x):eK (wb x)=some (7,x.aK.length,ez (zT x) 56):=by
 have h1:=M3 h;have h2:=VY x;exact yx EQ EQ
theorem Zpy {x:cm} (h:ox x):(wb x).length=64:=by
 have h1:=M3 h;have h2:=VY x;exact Ar
structure Fin (B:List UInt8) (m:cd):Prop where
 room:64*m.next<=m.B.length
 line: ∀k,2<=k->k<m.next->fX B k=fX m.B k
theorem Fin.back {B:aj} (h:Fin B m') (e:Ex m m'):Fin B m:=
 ⟨by have:=h.room;have:=e.le;have:=e.len;omega,λk h1 h2=>(h.line k h1 (mE h2 e.le)).trans (e.line k h2)⟩
theorem Fin.put {B:aj} (h:Fin B (gx m s)) (hs:s.length=64) (h1:2<=m.next):fX B m.next=s:=by
 have hn:(gx m s).next=m.next+1:=rfl;have h2:=h.room;rw[uT,hn]at h2;rw[h.line m.next h1 AC];exact ZzE AC hs
structure Mem (m:Nat) (W:List Nat) (P:Nat->Prop):Prop where
 len:W.length=(m+63)/64
 lt: ∀w∈W,w<18446744073709551616
 iff: ∀b,cD W b=true↔P b
theorem HL (img:aj) (k:Nat):Zv img k=fX img k:=by grind[Zv,fX]
theorem Gw (h:Mem K.m v.W P) (h2:2<=k) (hk:k<K.m) (hn: ¬P k):
  dC K (k:Int) v=some (ZA (fX K.img k), { v with W:=bA K.m v.W k })/\Mem K.m (bA K.m v.W k) (λb=>P b\/b=k):=by
 have hm:fe K.m (k:Int)=true:=by
  grind[fe]
 have hi:cD v.W k=false:=by
  cases hw:cD v.W k
  .rfl
  .exact absurd ((h.iff k).1 hw) hn
 refine⟨?_,by rw[np];exact h.len,Gt h.lt,λb=>?_⟩
 .unfold dC fK
  rw[hm,bn,hi,aQ (AC:(k:Int)>=2),HL];rfl
 .rw[oz h.len,hm,bn,mB,h.iff b,dt,bq]
theorem Mem.congr {m:Nat} {W:al} (h:Mem m W P) (e: ∀b,P b↔Q b):Mem m W Q:=⟨h.len,h.lt,λb=>(h.iff b).trans (e b)⟩
structure EOk (K:bu) (ay:List aX) (A:List Int) (e:aP):Prop where
 s0:0<=e.slot
 s1:e.slot<K.sup.used
 s2:e.slot<1792
 g:1<=e.gen/\e.gen<=4294967295
 k: -9223372036854775808<=e.key/\e.key<=9223372036854775807
 v: -9223372036854775808<=e.value/\e.value<=9223372036854775807
 akY:ay[e.slot.toNat]? =some ⟨true,e.gen,A.getD e.slot.toNat 0⟩
 len:e.slot.toNat<A.length
structure ym (K:bu) (ay:List aX) (A:List Int) (es:List aP):Prop where
 bz: ∀e∈es,EOk K ay A e
 nd:(es.map (·.slot)).Nodup
 ord:es.Pairwise λa b=>eX a b=true
theorem ym.sub {ay:List aX} (h:ym K ay A es) (k:eu.Sublist es):ym K ay A eu:=
 ⟨λe he=>h.bz e (k.subset he),h.nd.sublist (k.map _),h.ord.sublist k⟩
structure BK (v v':aI) (n:Nat):Prop where
 ay:v'.ay=v.ay
 aD:v'.aD=v.aD
 gens:v'.gens=v.gens
 free:v'.free=v.free
 nodes:v'.nodes=v.nodes+(n:Int)
theorem BK.trans {a b c:aI} {m n:Nat} (h:BK a b m) (k:BK b c n):BK a c (m+n):=
 ⟨k.ay.trans h.ay,k.aD.trans h.aD,k.gens.trans h.gens,k.free.trans h.free,by rw[k.nodes,h.nodes];omega⟩
def gp (a b k:Nat):Prop:=a<=k/\k<b
theorem Zvq {r:ak×cd} {s:Nat} (h: ∀e∈es,e.slot.toNat≠s):(nZ es r).2.At.getD s 0=r.2.At.getD s 0:=by
 unfold nZ;grind
theorem VP: ∀(j:Nat) (es:List aP) (m:cd) (s:Nat),(∀e∈es,e.slot.toNat≠s)->(cM j es m).2.At.getD s 0=m.At.getD s 0
 |0,_,_,_,_=>rfl
 |j+1,es,m,s,h=>by
  have h2: ∀e∈(es.drop (2^j)).take (2^j),e.slot.toNat≠s:=Fd
  show(nZ _ (cM j _ (cM j es m).2)).2.At.getD s 0=_;rw[Zvq h2,VP j _ _ s h2,VP j es m s h]
theorem VN (j:Nat) (es:List aP) (m:cd) (s:Nat) (h: ∀e∈es,e.slot.toNat≠s):(gM j es m).2.At.getD s 0=m.At.getD s 0:=(Zvq h).trans (VP j es m s h)
theorem Zur: ∀(j:Nat) (es:List aP) (m:cd),2^j<=es.length->∀x∈(cM j es m).1,(m.next:Int)<=x/\x<(cM j es m).2.next
 |0,_,_,_,_,h=>by cases h
 |j+1,es,m,hl,x,h=>by
  have⟨e,t,Yx⟩: ∃e t,(es.drop (2^j)).take (2^j)=e::t:=by
   cases hc:(es.drop (2^j)).take (2^j)with
   |nil=>
    have:=congrArg List.length hc;rw[cB,dY]at this;grind
   |cons e t=>exact⟨e,t,rfl⟩
  have hk:cM (j+1) es m=((cM j es m).1++[((nZ (e::t) (cM j (e::t) (cM j es m).2)).1:Int)],(nZ (e::t) (cM j (e::t) (cM j es m).2)).2):=by
   rw[<-Yx];rfl
  rw[hk]at h⊢;have l1:=(Ex.kids j es m).le;have l2:=(Ex.kids j (e::t) (cM j es m).2).le;have l3:(nZ (e::t) (cM j (e::t) (cM j es m).2)).2.next=(cM j (e::t) (cM j es m).2).2.next+1:=rfl;have l4:(nZ (e::t) (cM j (e::t) (cM j es m).2)).1=(cM j (e::t) (cM j es m).2).2.next:=rfl;simp only at h⊢;rw[l3];rcases ga.1 h with h|h
  .have:=Zur j es m AC x h
   omega
  grind
theorem Zyw (e:aP) (l:ak) (r:Int):nH ⟨e,l++[r]⟩ (l.length+1)=⟨r,l.length,e,false⟩::nH ⟨e,l⟩ l.length:=by
 rw[IM];have h1:(l++[r]).getD l.length 0=r:=by
  rw[cz,kO (aJ _),yg];rfl
 have h2: ∀n,n<=l.length->nH ⟨e,l++[r]⟩ n=nH ⟨e,l⟩ n:=by
  intro n;induction n with
  |zero=>intro _;rfl
  |succ n ih=>
   intro hn;rw[IM,IM,ih AC];grind
 rw[h2 _ (aJ _),h1]
theorem Zya {kids:ak} {top:Bool} (f:Nat) (out:List aP) (rest:List l8)
  (hM:Mem K.m v.W P) (h2:2<=k) (hk:k<K.m) (hn: ¬P k) (hl:fX K.img k=oU ⟨e,kids⟩) (he:EOk K v.ay A e) (hA:A.getD e.slot.toNat 0=(k:Int)) (fM:kids.length=j) (hj:j<=12)
  (Hq: ∀x∈kids,2<=x/\x<3072) (ht:top=true\/eX par e=true):
  ∃v',ZT K (f+1) out (⟨(k:Int),(j:Int),par,top⟩::rest) v=ZT K f (out++[e]) (nH ⟨e,kids⟩ j++rest) v'/\Mem K.m v'.W (λb=>P b\/b=k)/\BK v v' 1:=by
 have⟨t1,t2⟩:=Gw hM h2 hk hn;have hr:mb ⟨e,kids⟩=true:=by
  unfold mb;have alK:kids.any wM=false:=by
   rw[List.any_eq_false];grind[wM]
  have:=he.s0;have:=he.s2;have:=he.g;grind
 have hb:=(ZuD hr he.k he.v).1;rw[hl,hb]at t1;refine⟨{ v with W:=bA K.m v.W k,nodes:=v.nodes+1 },?_,t2,⟨rfl,rfl,rfl,rfl,rfl⟩⟩;have pP:qj K { v with W:=bA K.m v.W k } ⟨(k:Int),(j:Int),par,top⟩ ⟨e,kids⟩=true:=by
  unfold qj Ch;simp only;rw[fM,show((j:Int)==(j:Int))=true from Ad _,ae,aR he.s1,he.akY,hA];grind
 conv=>lhs;unfold ZT
 grind
section
variable (K:bu) (A:ak)
def KW (j:Nat):Prop:=∀(es:List aP) (m:cd) (par:aP) (f:Nat) (out:List aP) (rest:List l8) (v:aI) (P:Nat->Prop),j<=12->2^j<=es.length->Fin K.img (cM j es m).2->(cM j es m).2.next<=K.m->K.m<=3072->2<=m.next->m.At.length=A.length->
 ym K v.ay A es->(∀i e,1<=i->es[i]? =some e->eX par e=true)->(∀i e,1<=i->i<2^j->es[i]? =some e->A.getD e.slot.toNat 0=(cM j es m).2.At.getD e.slot.toNat 0)->
 Mem K.m v.W P->(∀b,gp m.next (cM j es m).2.next b->¬P b)->
 ∃eu v',ZT K (f+(2^j-1)) out (nH ⟨par,(cM j es m).1⟩ j++rest) v=ZT K f (out++eu) rest v'/\eu.Perm ((es.take (2^j)).drop 1)/\Mem K.m v'.W (λb=>P b\/gp m.next (cM j es m).2.next b)/\BK v v' (2^j-1)/\(cM j es m).2.next=m.next+(2^j-1)
def TW (j:Nat):Prop:=∀(es:List aP) (m:cd) (par:aP) (top:Bool) (f:Nat) (out:List aP) (rest:List l8) (v:aI) (P:Nat->Prop),j<=12->2^j<=es.length->Fin K.img (gM j es m).2->(gM j es m).2.next<=K.m->K.m<=3072->2<=m.next->m.At.length=A.length->
 ym K v.ay A es->(top=true\/∀e,es[0]? =some e->eX par e=true)->(∀i e,i<2^j->es[i]? =some e->A.getD e.slot.toNat 0=(gM j es m).2.At.getD e.slot.toNat 0)->
 Mem K.m v.W P->(∀b,gp m.next (gM j es m).2.next b->¬P b)->
 ∃eu v',ZT K (f+2^j) out (⟨((gM j es m).1:Int),j,par,top⟩::rest) v=ZT K f (out++eu) rest v'/\eu.Perm (es.take (2^j))/\Mem K.m v'.W (λb=>P b\/gp m.next (gM j es m).2.next b)/\BK v v' (2^j)/\(gM j es m).2.next=m.next+2^j/\2<=((gM j es m).1:Int)/\((gM j es m).1:Int)<3072
end
theorem Ztn (h:KW K A j):TW K A j:=by
 intro es m par top f out rest v P hj hl hF rD hK hn iX hW ht hA hM hP;obtain⟨e,t,rfl⟩: ∃e t,es=e::t:=by
  cases es with
  |nil=>have:=Ab j;simp at hl
  |cons e t=>exact⟨e,t,rfl⟩
 have⟨r,hr⟩: ∃r,cM j (e::t) m=r:=⟨_,rfl⟩;have htb:gM j (e::t) m=(r.2.next, { gx r.2 (oU ⟨e,r.1⟩)with At:=r.2.At.set e.slot.toNat (r.2.next:Int) }):=by
  unfold gM nZ;rw[hr]
 rw[htb]at hF rD hA hP⊢;simp only at hF rD hA hP⊢;have ub:(gx r.2 (oU ⟨e,r.1⟩)).next=r.2.next+1:=rfl;have CE:Fin K.img (gx r.2 (oU ⟨e,r.1⟩)):=⟨hF.room,hF.line⟩;have O0:Fin K.img r.2:=CE.back (Ex.put _ _);have hex:Ex m r.2:=by rw[<-hr];exact Ex.kids j _ m
 have hle:=hex.le;have Yw:=hW.bz e pz;have C5:r.1.length=j:=by
  have:=(xl j (e::t) m).2.2.2.2;rw[hr]at this;exact this
 have aih:r.2.At.length=A.length:=by
  have:=(xl j (e::t) m).2.1;rw[hr]at this;exact this.trans iX
 have eJ:=hW.nd;rw[kf,qQ]at eJ;have C1:=FE.1 hW.ord;have hA0:A.getD e.slot.toNat 0=(r.2.next:Int):=by
  rw[hA 0 e (Ab j) rfl,cz,ke (by rw[aih];exact Yw.len)];rfl
 have hPr: ¬P r.2.next:=hP _ ⟨hle,by rw[ub];omega⟩;have k6: ∀x∈r.1,2<=x/\x<3072:=λx hx=>by
  have:=Zur j (e::t) m hl x (by rw[hr];exact hx);rw[hr]at this;omega
 have⟨v1,s1,s2,s3⟩:=Zya (K:=K) (v:=v) (par:=par) (top:=top) (f+(2^j-1)) out rest hM AC (by rw[ub]at rD;omega) hPr (CE.put (by
   refine Ar ?_;rw[show(uk ⟨e,r.1⟩).length=24+2*r.1.length from(Vc (x:=⟨e,r.1⟩) Fd).2];omega) AC) Yw hA0 C5 hj k6 (ht.imp id λh=>h e rfl)
 have aj0:v1.ay=v.ay:=s3.ay;have⟨eu,v',q1,q2,q3,q4,q5⟩:=h (e::t) m e f (out++[e]) rest v1 (λb=>P b\/b=r.2.next) hj hl (by rw[hr];exact O0) (by rw[hr];omega) hK hn iX (by rw[aj0];exact hW) (λi x hi hx=>by
   grind) (λi x hi Ba hx=>by
   rw[hr,hA i x Ba hx,cz,ig,<-cz];obtain⟨i,rfl⟩: ∃i',i=i'+1:=⟨i-1,AC⟩;have hx:t[i]? =some x:=by simpa using hx
   have Lc:=qc hx;have Bi:=(hW.bz x (tj _ Lc)).s0;have he0:=Yw.s0;intro hc;exact eJ.1 (jK.2 ⟨x,Lc,AC⟩)) s2 (λb hb=>by
   rw[hr]at hb;rintro(h1|h1)
   .exact hP b ⟨hb.1,by rw[ub];have:=hb.2;omega⟩ h1
   .have:=hb.2;omega)
 rw[hr]at q1 q3 q5;have hp:=Ab j;refine⟨e::eu,v',?_,?_,?_,?_,?_,AC,by rw[ub]at rD;omega⟩
 .rw[show f+2^j=f+(2^j-1)+1 by omega,s1,q1,dL]
  rfl
 .have⟨n,hn⟩: ∃n,2^j=n+1:=⟨2^j-1,AC⟩
  rw[hn,List.take_succ_cons]at q2⊢;rw[List.drop_succ_cons,dF]at q2;exact q2.cons e
 .refine q3.congr λb=>?_
  unfold gp;rw[ub];grind
 .have:=s3.trans q4
  rwa [show 1+(2^j-1)=2^j by omega]at this
 .rw[ub,q5];omega
theorem ZAv (hT:TW K A j) (h:KW K A j):KW K A (j+1):=by
 intro es m par f out rest v P hj hl hF rD hK hn iX hW ajC hA hM hP;have e2:2^(j+1)=2*2^j:=by rw[tn];omega
 have hp:=Ab j;have⟨iE,CN⟩: ∃iE,(es.drop (2^j)).take (2^j)=iE:=⟨_,rfl⟩;have⟨m1,fS⟩: ∃m1,(cM j es m).2=m1:=⟨_,rfl⟩;have⟨T,CF⟩: ∃T,gM j iE m1=T:=⟨_,rfl⟩;have hk:cM (j+1) es m=((cM j es m).1++[(T.1:Int)],T.2):=by
  rw[<-CF,<-fS,<-CN];rfl
 rw[hk]at hF rD hA hP⊢;simp only at hF rD hA hP⊢;have ac3:Ex m1 T.2:=by rw[<-CF];exact Ex.tree j iE m1
 have aiI:Ex m m1:=by rw[<-fS];exact Ex.kids j es m
 have leK:=aiI.le;have fM:(cM j es m).1.length=j:=(xl j es m).2.2.2.2;have lM:iE.length=2^j:=by rw[<-CN,cB,dY];omega
 have aiR: ∀i e,iE[i]? =some e->es[2^j+i]? =some e:=Fd
 have ml:ym K v.ay A iE:=hW.sub (by rw[<-CN];exact(List.take_sublist _ _).trans (List.drop_sublist _ _));have aif:m1.At.length=A.length:=by rw[<-fS];exact(xl j es m).2.1.trans iX
 have⟨a1,v1,p1,p2,p3,p4,p5,p6,p7⟩:=hT iE m1 par false (f+(2^j-1)) out (nH ⟨par,(cM j es m).1⟩ j++rest) v P AC AC (by rw[CF];exact hF) (by rw[CF];exact rD) hK AC aif ml
  Fd (λi e hi he=>by rw[CF];exact hA (2^j+i) e AC AC (aiR i e he)) hM (λb hb=>hP b ⟨by have:=hb.1;omega,by rw[CF]at hb;exact hb.2⟩)
 rw[CF]at p1 p3 p5;have J7: ∀i e,i<2^j->es[i]? =some e->∀e'∈iE,e'.slot.toNat≠e.slot.toNat:=λi e hi he e' Hg hc=>by
  have eJ:=hW.nd;have ja:es=es.take (2^j)++es.drop (2^j):=(mD _ _).symm;rw[ja,eV,jU]at eJ;have m1:e∈es.take (2^j):=qc (by rw[uE,bx hi];exact he);have m2:e'∈es.drop (2^j):=Fd
  have g1:=(hW.bz e (Mf m1)).s0;have g2:=(hW.bz e' (Me m2)).s0;exact eJ.2.2 e.slot Fd e'.slot Fd AC
 have⟨a2,v2,q1,q2,q3,q4,q5⟩:=h es m par f (out++a1) rest v1 (λb=>P b\/gp m1.next T.2.next b) AC AC (by rw[fS];exact hF.back ac3) (by rw[fS];omega) hK hn iX (by rw[p4.ay];exact hW) ajC
  (λi e hi Ba he=>by
   rw[hA i e hi AC he,<-CF,VN j iE m1 _ (J7 i e Ba he),fS]) p3 (λb hb=>by
   rw[fS]at hb;rintro(h1|h1)
   .exact hP b ⟨hb.1,by have:=hb.2;omega⟩ h1
   .have:=hb.2;have:=h1.1;omega)
 rw[fS]at q3 q5;refine⟨a1++a2,v2,?_,?_,?_,?_,?_⟩
 .have:=Zyw par (cM j es m).1 (T.1:Int)
  rw[fM]at this;rw[this,show f+(2^(j+1)-1)=f+(2^j-1)+2^j by omega,oo,p1,q1,dL]
 .have ht:es.take (2^(j+1))=es.take (2^j)++iE:=by
   rw[e2,show 2*2^j=2^j+2^j by omega,uH,CN]
  rw[ht,QD (by rw[cB];omega)];rw[dG AC]at p2;exact(List.perm_append_comm).trans (q2.append p2)
 .refine q3.congr λb=>?_
  unfold gp;grind
 .have:=p4.trans q4
  rwa [show 2^j+(2^j-1)=2^(j+1)-1 by omega]at this
 .rw[p5,q5];omega
theorem Xg (K:bu) (A:ak): ∀j,KW K A j
 |0=>by
  intro es m par f out rest v P _ hl _ _ _ _ _ _ _ _ hM _;refine⟨[],v,?_,?_,hM.congr λb=>?_,⟨rfl,rfl,rfl,rfl,Do⟩,rfl⟩
  .rw[fP];rfl
  .simp
  .constructor
   .exact .inl
   .rintro(h1|h1)
    .exact h1
    .have h2:=h1.1
     have h3:b<m.next:=h1.2;omega
 |j+1=>ZAv (Ztn (Xg K A j)) (Xg K A j)
theorem ZA0 (K:bu) (A:ak) (j:Nat):TW K A j:=Ztn (Xg K A j)
theorem IT (cnt:Nat): ∀(c k:Nat) (hs:ak) (rest:List aP) (m:cd) (s:Nat),(∀e∈rest,e.slot.toNat≠s)->(eR cnt c k hs rest m).2.At.getD s 0=m.At.getD s 0
 |0,_,_,_,_,_,_=>rfl
 |c+1,k,hs,rest,m,s,h=>by
  unfold eR;cases eN cnt k
  .exact IT cnt c _ _ _ _ s h
  .exact(IT cnt c _ _ _ _ s λe he=>h e (Me he)).trans (VN k _ m s λe he=>h e (Mf he))
theorem ZvC (cnt k:Nat):cnt/2^k*2^k=cnt/2^(k+1)*2^(k+1)+(if cnt/2^k%2=1 then 2^k else 0):=by
 have h1:cnt/2^(k+1)=cnt/2^k/2:=by rw[tn,H3]
 have h2:=Nat.div_add_mod (cnt/2^k) 2;rw[h1,tn];generalize cnt/2^k=a at h2;generalize 2^k=b;by_cases h:a%2=1
 .rw[bx h]
  rw[h]at h2;grind
 .rw[aY h]
  have h0:a%2=0:=AC
  rw[h0]at h2;grind
theorem Uu {K:bu} {A:ak} {cnt:Nat} : ∀(c k:Nat) (hs:ak) (rest:List aP) (m:cd) (acc:List aP) (v:aI) (P:Nat->Prop),k+c=12->hs.length=12->(∀i,k<=i->hs.getD i 0=0)->rest.length=cnt/2^k*2^k->cnt<4096->
  Fin K.img (eR cnt c k hs rest m).2->(eR cnt c k hs rest m).2.next<=K.m->K.m<=3072->2<=m.next->m.At.length=A.length->ym K v.ay A rest->(∀e∈rest,A.getD e.slot.toNat 0=(eR cnt c k hs rest m).2.At.getD e.slot.toNat 0)->
  Mem K.m v.W P->(∀b,gp m.next (eR cnt c k hs rest m).2.next b->¬P b)->
  ∃eu v',Z2 K (k:Int) ((eR cnt c k hs rest m).1.drop k) acc v=some (acc++eu,v')/\eu.Perm rest/\Mem K.m v'.W (λb=>P b\/gp m.next (eR cnt c k hs rest m).2.next b)/\BK v v' rest.length/\(eR cnt c k hs rest m).2.next=m.next+rest.length/\
   (∀i,i<k->(eR cnt c k hs rest m).1.getD i 0=hs.getD i 0)/\(∀i,k<=i->i<12->bif eN cnt i then 2<=(eR cnt c k hs rest m).1.getD i 0/\(eR cnt c k hs rest m).1.getD i 0<3072 else(eR cnt c k hs rest m).1.getD i 0=0)
 |0,k,hs,rest,m,acc,v,P,YY,hl,hz,hr,hc,_,_,_,_,_,_,_,hM,_=>by
  have hk:k=12:=AC
  subst hk;have h0:rest=[]:=by
   rw[Nat.div_eq_of_lt (AC:cnt<2^12)]at hr;grind
  subst h0;refine⟨[],v,?_,.refl _,hM.congr λb=>?_,⟨rfl,rfl,rfl,rfl,Do⟩,rfl,λ_ _=>rfl,λi h1 h2=>AC⟩
  .show Z2 K _ (hs.drop 12) acc v=_
   rw[lx AC,fP];rfl
  .constructor
   .exact .inl
   .rintro(h1|h1)
    .exact h1
    .have h2:=h1.1
     have h3:b<m.next:=h1.2;omega
 |c+1,k,hs,rest,m,acc,v,P,YY,hl,hz,hr,hc,hF,rD,hK,hn,iX,hW,hA,hM,hP=>by
  have vp:=ZvC cnt k;have hlen: ∀(c k:Nat) (hs:ak) (rest:List aP) (m:cd),(eR cnt c k hs rest m).1.length=hs.length:=λc k hs rest m=>(MR cnt c k hs rest m).2.2.2.2
  cases hb:eN cnt k
  .have e:eR cnt (c+1) k hs rest m=eR cnt c (k+1) hs rest m:=by
    conv=>lhs;unfold eR
    rw[hb,af]
   rw[e]at hF rD hA hP⊢;have cZ: ¬cnt/2^k%2=1:=DD hb;rw[aY cZ,fE]at vp;have⟨eu,v',a1,a2,a3,a4,a5,a6,a7⟩:=Uu c (k+1) hs rest m acc v P AC hl (λi hi=>hz i AC) (by rw[hr,vp]) hc hF rD hK hn iX hW hA hM hP;have h0:(eR cnt c (k+1) hs rest m).1.getD k 0=0:=by rw[a6 k AC];grind
   refine⟨eu,v',?_,a2,a3,a4,a5,λi hi=>a6 i AC,λi h1 h2=>?_⟩
   .have fM:k<(eR cnt c (k+1) hs rest m).1.length:=by rw[hlen];omega
    rw[iR fM];have XT:(eR cnt c (k+1) hs rest m).1[k]=0:=by
     rw[cz,cc fM]at h0;exact h0
    rw[XT];unfold Z2;rw[pL FS,show((k:Int)+1)=((k+1:Nat):Int) by omega];exact a1
   grind
  .have⟨T,hT⟩: ∃T,gM k (rest.take (2^k)) m=T:=⟨_,rfl⟩;have e:eR cnt (c+1) k hs rest m=eR cnt c (k+1) (hs.set k (T.1:Int)) (rest.drop (2^k)) T.2:=by
    conv=>lhs;unfold eR
    rw[hb,ae,hT]
   rw[e]at hF rD hA hP⊢;have cZ:cnt/2^k%2=1:=ng hb;rw[bx cZ]at vp;have ac3:Ex m T.2:=by rw[<-hT];exact Ex.tree k _ m
   have ac2:Ex T.2 (eR cnt c (k+1) (hs.set k (T.1:Int)) (rest.drop (2^k)) T.2).2:=Ex.eR cnt c _ _ _ _;have leR:=ac2.le;have rG:(rest.take (2^k)).length=2^k:=by rw[cB];omega
   have ja:rest=rest.take (2^k)++rest.drop (2^k):=(mD _ _).symm;have J7: ∀e∈rest.take (2^k),∀e'∈rest.drop (2^k),e'.slot.toNat≠e.slot.toNat:=λe he e' Hg Yl=>by
    have eJ:=hW.nd;rw[ja,eV,jU]at eJ;have g1:=(hW.bz e (Mf he)).s0;have g2:=(hW.bz e' (Me Hg)).s0;exact eJ.2.2 e.slot Fd e'.slot Fd AC
   have⟨a1,v1,p1,p2,p3,p4,p5,p6,p7⟩:=ZA0 K A k (rest.take (2^k)) m xB true (K.m+1-2^k) [] [] v P AC AC (by rw[hT];exact hF.back ac2) (by rw[hT];omega) hK hn iX (hW.sub (List.take_sublist _ _)) (.inl rfl)
    (λi e hi he=>by
     have Pd:=qc he;rw[hT,hA e (Mf Pd),IT cnt c _ _ _ _ _ (J7 e Pd)]) hM (λb dq=>hP b ⟨dq.1,by rw[hT]at dq;have:=dq.2;omega⟩)
   rw[hT]at p1 p3 p5 p6 p7;rw[dG (l:=rest.take (2^k)) AC]at p2;have Yc:T.2.At.length=A.length:=by rw[<-hT];exact(M1 k _ m).2.1.trans iX
   have⟨eu,v',b1,b2,b3,b4,b5,b6,b7⟩:=Uu c (k+1) (hs.set k (T.1:Int)) (rest.drop (2^k)) T.2 (acc++a1) v1 (λb=>P b\/gp m.next T.2.next b) AC (by rw[lz];exact hl)
    (λi hi=>by rw[cz,ig AC,<-cz];exact hz i AC) (by rw[dY,hr,vp];omega) hc hF rD hK AC Yc (by rw[p4.ay];exact hW.sub (List.drop_sublist _ _)) Fd p3
    (λb dq=>by
     rintro(h1|h1)
     .exact hP b ⟨by have:=dq.1;omega,dq.2⟩ h1
     .have:=dq.1;have:=h1.2;omega)
   have hkT:(eR cnt c (k+1) (hs.set k (T.1:Int)) (rest.drop (2^k)) T.2).1.getD k 0=(T.1:Int):=by
    rw[b6 k AC,cz,ke AC];rfl
   refine⟨a1++eu,v',?_,?_,?_,?_,?_,λi hi=>?_,λi h1 h2=>?_⟩
   .have fM:k<(eR cnt c (k+1) (hs.set k (T.1:Int)) (rest.drop (2^k)) T.2).1.length:=by rw[hlen,lz];omega
    rw[iR fM];have XT:(eR cnt c (k+1) (hs.set k (T.1:Int)) (rest.drop (2^k)) T.2).1[k]=(T.1:Int):=by
     rw[cz,cc fM]at hkT;exact hkT
    rw[XT];unfold Z2;have cV:(!((T.1:Int)==0))=true:=by rw[dM.2 AC];rfl
    have htm:oY K (T.1:Int) (k:Int) v=some (a1,v1):=by
     unfold oY;have⟨f,hf⟩: ∃f,K.m+1-2^k=f+1:=⟨K.m-2^k,AC⟩;rw[show K.m+1=K.m+1-2^k+2^k by omega,p1,hf];rfl
    rw[cV,ae,htm];grind
   .have:=p2.append b2
    rwa [<-ja]at this
   .refine b3.congr λb=>?_
    unfold gp;constructor
    .rintro((h1|h1)|h1)
     .exact .inl h1
     .omega
     omega
    grind
   .have:=p4.trans b4
    rw[dY]at this;rwa [show 2^k+(rest.length-2^k)=rest.length by omega]at this
   .rw[b5,p5,dY];omega
   .rw[b6 i AC,cz,ig AC,<-cz]
   .by_cases hi:i=k
    .grind
    .exact b7 i AC h2
theorem ZtM: ∀(n:Nat) (s:aj),s.length<=n->((dK s).all λr=>xY r)=true->s.length<=3*(dK s).length
 |0,s,h,_=>by omega
 |n+1,s,h,ha=>by
  by_cases h0:0<s.length
  .rw[NF h0]at ha⊢
   rw[wY,aS]at ha;have hp:=Gy s 0;have ih:=ZtM n (s.drop (dec s 0).2) (by rw[dY];omega) ha.2;have h3:(dec s 0).2<=3:=by
    have hr:((dec s 0).1:Int)<=65519:=by
     grind[xY]
    rw[Cf]at hr⊢;by_cases c1:oc s 0<128
    .rw[bx c1]
     omega
    rw[aY c1]at hr⊢;by_cases c2:(194<=oc s 0/\oc s 0<=223)/\(128<=oc s (0+1)/\oc s (0+1)<=191)
    .rw[bx c2]
     omega
    rw[aY c2]at hr⊢;by_cases c3:(224<=oc s 0/\oc s 0<=239)/\((if oc s 0=224 then 160 else 128)<=oc s (0+1)/\oc s (0+1)<=(if oc s 0=237 then 159 else 191))/\(128<=oc s (0+2)/\oc s (0+2)<=191)
    .rw[bx c3]
     omega
    rw[aY c3]at hr⊢;by_cases c4:(240<=oc s 0/\oc s 0<=244)/\((if oc s 0=240 then 144 else 128)<=oc s (0+1)/\oc s (0+1)<=(if oc s 0=244 then 143 else 191))/\(128<=oc s (0+2)/\oc s (0+2)<=191)/\(128<=oc s (0+3)/\oc s (0+3)<=191)
    .rw[bx c4]at hr
     grind
    rw[aY c4];omega
   rw[dY]at ih;rw[cQ];omega
  .omega
theorem ZoF (h:pH s=true):s.length<=24:=by
 unfold pH at h;rw[aS,aS,bq,bq]at h;have:=ZtM s.length s (aJ _) h.2.2;omega
theorem Jd (a b:aP):eX a b=fY (e4 a) (e4 b):=Zro (e4 a) (e4 b)
theorem ZoA: ∀ {l:List aP},B0 l->l.Pairwise λa b=>eX a b=true
 |[],_=> .nil
 |a::l,h=>by
  have ih:=ZoA (l:=l) λi x y h1 h2=>h (i+1) x y (by simpa using h1) (by simpa using h2)
  refine FE.2 ⟨λx hx=>?_,ih⟩;cases l with
  |nil=>cases hx
  |cons b t=>
   have fL:eX a b=true:=h 0 a b rfl rfl;rcases ep.1 hx with rfl|hx
   .exact fL
   .have hbx:=(FE.1 ih).1 x hx
    rw[Jd]at fL hbx⊢;exact Nl fL hbx
theorem Zq4 (hp:eu.Perm es) (ho:es.Pairwise λa b=>eX a b=true) (hd:(es.map (·.slot)).Nodup):kK eu=es:=by
 have lL:Diff eu:=by
  grind[Diff]
 have yV:=UM (Sw lL);have hs:(es.map e4).Pairwise (λa b=>fY b a=false):=by
  rw[FF];refine ho.imp λ{a b} h=>?_
  rw[Jd]at h;exact Vh h
 have:=ZoG (l:=eu.map e4) (l':=es.map e4) ((hp.map e4).symm) yV hs;unfold kK;rw[<-this,uF,show Dt∘e4=id from rfl,List.map_id]
def Xk (l:List dw) (s:Nat):Prop:=∀e∈(l.map (·.bz)).flatten,e.slot.toNat≠s
theorem Ny: ∀(l:List dw) (eM:ak) (m:cd) (s:Nat),Xk l s->(gz l eM m).2.At.getD s 0=m.At.getD s 0
 |[],_,_,_,_=>rfl
 |x::r,eM,m,s,h=>by
  have h1: ∀e∈x.bz,e.slot.toNat≠s:=λe he=>h e (by rw[kf,vH];grind)
  have h2:Xk r s:=λe he=>h e (by rw[kf,vH];grind)
  exact(Ny r _ _ s h2).trans (IT _ _ _ _ _ _ s h1)
theorem VV {K:bu} {A:ak} : ∀(l:List dw) (eM:ak) (m:cd) (v:aI) (P:Nat->Prop),Fin K.img (gz l eM m).2->(gz l eM m).2.next<=K.m->K.m<=3072->2<=m.next->m.At.length=A.length->
  (∀h∈l,ym K v.ay A h.bz/\pH h.name=true/\h.bz.length<4096)->(((l.map (·.bz)).flatten).map (·.slot)).Nodup->Ji (v.aD++l)->
  (∀e∈(l.map (·.bz)).flatten,A.getD e.slot.toNat 0=(gz l eM m).2.At.getD e.slot.toNat 0)->Mem K.m v.W P->(∀b,gp m.next (gz l eM m).2.next b->¬P b)->
  ∃v' new,(gz l eM m).1=eM++new/\new.length=l.length/\new.Nodup/\(∀x∈new,(m.next:Int)<=x/\x<(gz l eM m).2.next)/\oD K v.aD.length new v=some v'/\Mem K.m v'.W (λb=>P b\/gp m.next (gz l eM m).2.next b)/\
   v'.aD=v.aD++l/\v'.ay=v.ay/\v'.gens=v.gens/\v'.free=v.free/\v'.nodes=v.nodes+(mg l:Int)
 |[],eM,m,v,P,_,_,_,_,_,_,_,_,_,hM,_=>by
  refine⟨v,[],(fP _).symm,rfl,.nil,λx h=>(nomatch h),rfl,hM.congr λb=>?_,(fP _).symm,rfl,rfl,rfl,by simp[mg]⟩;constructor
  .exact .inl
  .rintro(h1|h1)
   .exact h1
   .have h2:=h1.1
    have h3:b<m.next:=h1.2;omega
 |x::r,eM,m,v,P,hF,rD,hK,hn,iX,hh,eJ,C1,hA,hM,hP=>by
  have⟨T,hT⟩: ∃T,roots x.bz m=T:=⟨_,rfl⟩;have⟨m1,fS⟩: ∃m1,gx T.2 (pZ ⟨x.name,x.bz.length,T.1⟩)=m1:=⟨_,rfl⟩;have e:gz (x::r) eM m=gz r (eM++[(T.2.next:Int)]) m1:=by
   conv=>lhs;unfold gz
   rw[hT,<-fS]
  rw[e]at hF rD hA hP⊢;have aiG:Ex m T.2:=by rw[<-hT];exact Ex.eR _ _ _ _ _ m
  have aiH:Ex T.2 m1:=by rw[<-fS];exact Ex.put _ _
  have ac1:Ex m1 (gz r (eM++[(T.2.next:Int)]) m1).2:=Ex.gz r _ _;have l1:=aiG.le;have l2:m1.next=T.2.next+1:=by rw[<-fS];rfl
  have l3:=ac1.le;have⟨hW,hrn,Ym⟩:=hh x pz;rw[kf,vH]at eJ hA;rw[eV,jU]at eJ;have J7: ∀e∈x.bz,Xk r e.slot.toNat:=λe he e' Hg hc=>by
   have g1:=(hW.bz e he).s0;have⟨w,hw,hew⟩:=List.mem_flatten.1 Hg;obtain⟨g,hg,rfl⟩:=jK.1 hw;have g2:=((hh g (tj _ hg)).1.bz e' hew).s0;exact eJ.2.2 e.slot Fd e'.slot Fd AC
  have tU:Fin K.img m1:=hF.back ac1;have OZ:Fin K.img T.2:=tU.back aiH;have Yc:T.1.length=12:=by rw[<-hT];exact(IK x.bz m).2.2.2.2
  have aim:T.2.At.length=A.length:=by rw[<-hT];exact(IK x.bz m).2.1.trans iX
  have adq:m1.At=T.2.At:=by rw[<-fS];rfl
  have⟨q1,KO⟩: ∃k,T.2.next=k:=⟨_,rfl⟩;have hPq: ¬P T.2.next:=hP _ ⟨l1,AC⟩;have ES:eR x.bz.length 12 0 (List.replicate 12 0) x.bz m=T:=hT;have hAx: ∀e∈x.bz,A.getD e.slot.toNat 0=T.2.At.getD e.slot.toNat 0:=λe he=>by
   rw[hA e (Dy _ he),Ny r _ _ _ (J7 e he),adq]
  have adY:=λ(acc:List aP) (v:aI) (P:Nat->Prop) (hs:ym K v.ay A x.bz) (hM:Mem K.m v.W P) (hd: ∀b,gp m.next T.2.next b->¬P b)=>
   Uu (K:=K) (A:=A) (cnt:=x.bz.length) 12 0 (List.replicate 12 0) x.bz m acc v P rfl rfl (λi _=>by
    rw[cz,Fy];split<;>rfl) (by rw[Nat.pow_zero,Nat.div_one,cR]) Ym (by rw[ES];exact OZ) (by rw[ES];omega) hK hn iX hs (by rw[ES];exact hAx) hM (by rw[ES];exact hd)
  have⟨_,_,_,_,_,_,w5,_,w7⟩:=adY [] v P hW hM (λb hb=>hP b ⟨hb.1,by have:=hb.2;omega⟩);rw[ES]at w5 w7;have hhr: ∀k∈T.1,0<=k/\k<3072:=λk hk=>by
   obtain⟨i,hi,rfl⟩:=BE hk;have:=w7 i AC AC;rw[cz,cc hi]at this;cases hb:eN x.bz.length i
   .rw[hb,af]at this;have h2:T.1[i]=0:=this;omega
   .rw[hb,ae]at this;have h2:2<=T.1[i]/\T.1[i]<3072:=this;omega
  have⟨xO,hqb⟩:=Zwu (x:=⟨x.name,x.bz.length,T.1⟩) Yc Ym hrn (ZoF hrn) (λi hi=>by
   have:=w7 i AC hi;unfold qE rh;simp only;cases hb:eN x.bz.length i
   .rw[hb,af]at this;rw[af,this];rfl
   .rw[hb,ae]at this;rw[ae,aQ (AC:T.1.getD i 0>=2),aQ this.2];rfl) hhr
  have xK:fX K.img T.2.next=pZ ⟨x.name,x.bz.length,T.1⟩:=Fin.put (by rw[fS];exact tU) xO AC;have⟨t1,t2⟩:=Gw hM AC AC hPq;rw[xK,hqb]at t1;have⟨eu,v2,u1,u2,u3,u4,_,_,_⟩:=adY [] { v with W:=bA K.m v.W T.2.next } (λb=>P b\/b=T.2.next) hW t2 (λb hb=>by
   rintro(h1|h1)
   .exact hP b ⟨hb.1,by have:=hb.2;omega⟩ h1
   .have:=hb.2;omega)
  rw[ES,dF,gR]at u1;rw[ES]at u3;have adS:kK eu=x.bz:=Zq4 u2 hW.ord hW.nd;have⟨v',new,d1,d2,d3,d4,d5,d6,d7,d8,d9,d10,d11⟩:=VV r (eM++[(T.2.next:Int)]) m1 { v2 with aD:=v2.aD++[⟨x.name,kK eu⟩] } (λb=>(P b\/b=T.2.next)\/gp m.next T.2.next b) hF rD hK AC (by rw[adq];exact aim)
   (λh hm=>by
    have:=hh h (tj _ hm);rw[show v2.ay=v.ay from u4.ay];exact this) (by
    exact eJ.2.1) (by
    rw[show v2.aD=v.aD from u4.aD,adS,dL];exact C1) (λe he=>hA e (FC _ he)) u3 (λb hb=>by
    rintro((h1|h1)|h1)
    .exact hP b ⟨by have:=hb.1;omega,hb.2⟩ h1
    .have:=hb.1;omega
    .have:=hb.1;have:=h1.2;omega)
  have sB:v2.aD=v.aD:=u4.aD;have tW:mg (x::r)=x.bz.length+mg r:=by unfold mg;rw[kf,List.sum_cons]
  refine⟨v',(T.2.next:Int)::new,by rw[d1,dL];rfl,by rw[cQ,d2,cQ],?_,?_,?_,?_,?_,d8.trans u4.ay,d9.trans u4.gens,d10.trans u4.free,?_⟩
  .refine qQ.2 ⟨λh=>?_,d3⟩
   have:=(d4 _ h).1;omega
  .intro y hy
   rcases ep.1 hy with rfl|hy
   .omega
   .have:=d4 y hy
    omega
  .unfold oD
   rw[t1];simp only;have hna:v8 { v with W:=bA K.m v.W T.2.next } v.aD.length x.name=true:=by
    unfold v8;by_cases h0:v.aD.length=0
    .rw[aQ h0];rfl
    .rw[aU h0]
     simp only;have hg:v.aD[v.aD.length-1]? =some (v.aD[v.aD.length-1]' AC):=cc AC;rw[hg];simp only;refine aQ (C1 (v.aD.length-1) _ x ?_ ?_)
     .rw[nc AC];exact hg
     .rw[kO AC,show v.aD.length-1+1-v.aD.length=0 by omega];rfl
   rw[hna,ae,show(0:Int)=((0:Nat):Int)from rfl,u1];simp only;simp only[sB,ba,iS]at d5;rw[sB];exact d5
  .refine d6.congr λb=>?_
   unfold gp;constructor
   .rintro(((h1|h1)|h1)|h1)
    .exact .inl h1
    .exact .inr AC
    .omega
    omega
   grind
  .rw[d7]
   simp only;rw[sB,adS,dL];rfl
  .rw[d11]
   simp only;rw[u4.nodes,tW];simp only;omega
theorem Zu7 {B:aj} (c:Nat): ∀(f:Nat) (ls:ak) (m:cd),gens.length<=f+7*c->2<=m.next->(∀g,(lT (qo (mY gens m.At free g))).length=64)->
  (iA gens free c f ls m).1=ls++ZC m.next ((gens.length-f+6)/7)/\(iA gens free c f ls m).2.next=m.next+(gens.length-f+6)/7/\(iA gens free c f ls m).2.At=m.At/\
   (Fin B (iA gens free c f ls m).2->∀t,t<(gens.length-f+6)/7->fX B (m.next+t)=lT (qo (mY gens m.At free (f+7*t)))):=by
 induction c with
 |zero=>
  intro f ls m h _ _;have hz:(gens.length-f+6)/7=0:=AC
  have e:iA gens free 0 f ls m=(ls,m):=rfl;rw[e,hz];simp[ZC]
 |succ c ih=>
  intro f ls m h h1 lI;by_cases hf:f<gens.length
  .have⟨m2,eG⟩: ∃m2,gx m (lT (qo (mY gens m.At free f)))=m2:=⟨_,rfl⟩
   have e:iA gens free (c+1) f ls m=iA gens free c (f+7) (ls++[(m.next:Int)]) m2:=by
    conv=>lhs;unfold iA
    rw[aR hf,eG]
   have hn:m2.next=m.next+1:=by rw[<-eG];rfl
   have hA:m2.At=m.At:=by rw[<-eG];rfl
   rw[e];have hex:=Ex.iA gens free c (f+7) (ls++[(m.next:Int)]) m2;have⟨a1,a2,a3,a4⟩:=ih (f+7) (ls++[(m.next:Int)]) m2 AC AC (by rw[hA];exact lI);generalize iA gens free c (f+7) (ls++[(m.next:Int)]) m2=R at a1 a2 a3 a4 hex⊢;rw[hA]at a3 a4;rw[hn]at a1 a2 a4;have hd:(gens.length-f+6)/7=(gens.length-(f+7)+6)/7+1:=AC
   refine⟨?_,by rw[a2,hd];omega,a3,λhF t ht=>?_⟩
   .rw[a1,dL,hd]
    congr 1;unfold ZC;rw[List.range_succ_eq_map,kf,uF,List.singleton_append,fE];congr 1;refine FB λi _=>?_
    grind
   .cases t with
    |zero=>
     rw[Nat.mul_zero,fE,fE];have tU:=hF.back hex;rw[<-eG]at tU;exact tU.put (lI f) h1
    |succ t=>
     have:=a4 hF t AC;rw[show m.next+(t+1)=m.next+1+t by omega,show f+7*(t+1)=f+7+7*t by omega];exact this
  .have e:iA gens free (c+1) f ls m=(ls,m):=by
    conv=>lhs;unfold iA
    rw[aU hf]
   grind[ZC]
theorem Zrl {leaves:ak} {B:aj} : ∀(c i:Nat) (top:ak) (m:cd),i+c=16->leaves.length<=256->top.length=16->2<=m.next->(∀g,(lT (mM (lG leaves g))).length=64)->
  (∀j,i<=j->top.getD j 0=0)->
  (jn leaves c i top m).2.next=m.next+((leaves.length+15)/16-i)/\(jn leaves c i top m).2.At=m.At/\(jn leaves c i top m).1.length=16/\
   (∀j,(jn leaves c i top m).1.getD j 0=if j<i then top.getD j 0 else if 16*j<leaves.length then((m.next+(j-i):Nat):Int)else 0)/\
   (Fin B (jn leaves c i top m).2->∀j,i<=j->16*j<leaves.length->fX B (m.next+(j-i))=lT (mM (lG leaves j)))
 |0,i,top,m,h,hl,ht,_,_,hz=>by
  have:(leaves.length+15)/16-i=0:=AC
  rw[this];refine⟨rfl,rfl,ht,λj=>?_,λ_ j h1 h2=>AC⟩;show top.getD j 0=_;grind
 |c+1,i,top,m,h,hl,ht,h1,lI,hz=>by
  by_cases hf:16*i<leaves.length
  .have⟨m2,eG⟩: ∃m2,gx m (lT (mM (lG leaves i)))=m2:=⟨_,rfl⟩
   have e:jn leaves (c+1) i top m=jn leaves c (i+1) (top.set i (m.next:Int)) m2:=by
    conv=>lhs;unfold jn
    rw[aR hf,eG]
   have hn:m2.next=m.next+1:=by rw[<-eG];rfl
   have hA:m2.At=m.At:=by rw[<-eG];rfl
   rw[e];have hex:=Ex.jn leaves c (i+1) (top.set i (m.next:Int)) m2;have⟨a1,a2,a3,a4,a5⟩:=Zrl (leaves:=leaves) (B:=B) c (i+1) (top.set i (m.next:Int)) m2 AC hl (by rw[lz];exact ht) AC lI (λj hj=>by
    rw[cz,ig AC,<-cz];exact hz j AC)
   generalize jn leaves c (i+1) (top.set i (m.next:Int)) m2=R at a1 a2 a3 a4 a5 hex⊢;rw[hn]at a1 a4 a5;rw[hA]at a2;refine⟨by rw[a1];omega,a2,a3,λj=>?_,λhF j zj xJ=>?_⟩
   .rw[a4 j]
    by_cases hj:j<i
    .rw[bx AC,bx hj,cz,ig AC,<-cz]
    grind
   .by_cases oJ:j=i
    .subst oJ
     rw[yg,fE];have tU:=hF.back hex;rw[<-eG]at tU;exact tU.put (lI j) h1
    .have:=a5 hF j AC xJ
     rw[show m.next+(j-i)=m.next+1+(j-(i+1)) by omega];exact this
  .have e:jn leaves (c+1) i top m=(top,m):=by
    conv=>lhs;unfold jn
    rw[aU hf]
   grind
def kJ (SB:Nat->aX) (used s n:Nat):List aX:=((List.range' s n).filter λk=>decide (k<used)).map SB
theorem NH (SB:Nat->aX) (used s m n:Nat):kJ SB used s (m+n)=kJ SB used s m++kJ SB used (s+m) n:=by
 grind[kJ,List.range'_append_1]
theorem Wa (SB:Nat->aX) (used s n:Nat) (h:used<=s:=by omega):kJ SB used s n=[]:=by
 unfold kJ;rw[List.filter_eq_nil_iff.2 λk hk=>?_]
 .rfl
 grind
structure NY (K:bu) (SB:Nat->aX) (used:Nat):Prop where
 u:K.sup.used=(used:Int)
 ok: ∀k,k<used->nk K.sup (SB k)=true
theorem Znn {K:bu} {SB:Nat->aX} {used:Nat} (hS:NY K SB used): ∀(l:List aX) (s:Nat) (v:aI),(∀i x,l[i]? =some x->x=if s+i<used then SB (s+i)else gQ)->
  jY K (s:Int) l v=some { v with ay:=v.ay++kJ SB used s l.length }
 |[],s,v,_=>by
  simp[kJ,jY]
 |x::r,s,v,h=>by
  have hx:=h 0 x rfl;rw[fE]at hx;have ih:=λv=>Znn hS r (s+1) v λi y hy=>by
   have:=h (i+1) y (by simpa using hy);rw[show s+(i+1)=s+1+i by omega]at this;exact this
  unfold jY mO;rw[hS.u];have hsg:kJ SB used s (x::r).length=(if s<used then[SB s]else[])++kJ SB used (s+1) r.length:=by
   rw[cQ,show r.length+1=1+r.length by omega,NH];grind[kJ]
  rw[hsg];by_cases hs:s<used
  .rw[bx hs]at hx
   subst hx;rw[aU,hS.ok s hs,ae,bx hs];grind
  .rw[aY hs]at hx
   subst hx;rw[aR,kT FS,aY hs];grind
structure VJ (K:bu) (SB:Nat->aX) (used a nl:Nat):Prop where
 two:2<=a
 top:a+nl<=K.m
 all:used<=7*nl
 at': ∀t,t<nl->∃l,ZA (fX K.img (a+t))= .leaf l/\l.length=7/\∀i x,l[i]? =some x->x=if 7*t+i<used then SB (7*t+i)else gQ
theorem VE {K:bu} {SB:Nat->aX} {used a nl:Nat} (hS:NY K SB used) (hL:VJ K SB used a nl) (x5:Nat): ∀(l:ak) (k:Nat) (v:aI) (P:Nat->Prop),(∀i y,l[i]? =some y->y=if 16*x5+k+i<nl then((a+(16*x5+k+i):Nat):Int)else 0)->
  Mem K.m v.W P->(∀b,gp (a+(16*x5+k)) (a+min (16*x5+k+l.length) nl) b->¬P b)->
  ∃W',jl K (nl:Int) (x5:Int) (k:Int) l v=some { v with W:=W',ay:=v.ay++kJ SB used (7*(16*x5+k)) (7*l.length) } /\Mem K.m W' (λb=>P b\/gp (a+(16*x5+k)) (a+min (16*x5+k+l.length) nl) b)
 |[],k,v,P,_,hM,_=>by
  refine⟨v.W,?_,hM.congr λb=>?_⟩
  .simp[kJ,jl]
  grind[gp,Aa]
 |y::r,k,v,P,h,hM,hP=>by
  have hy:=h 0 y rfl;rw[fE]at hy;have h': ∀i z,r[i]? =some z->z=if 16*x5+(k+1)+i<nl then((a+(16*x5+(k+1)+i):Nat):Int)else 0:=λi z hz=>by
   have:=h (i+1) z (by simpa using hz);rw[show 16*x5+k+(i+1)=16*x5+(k+1)+i by omega]at this;exact this
  have hlen:(y::r).length=r.length+1:=rfl;have KX:kJ SB used (7*(16*x5+k)) (7*(y::r).length)=kJ SB used (7*(16*x5+k)) 7++kJ SB used (7*(16*x5+(k+1))) (7*r.length):=by
   rw[hlen,show 7*(r.length+1)=7+7*r.length by omega,NH,show 7*(16*x5+k)+7=7*(16*x5+(k+1)) by omega]
  rw[hlen]at hP⊢;unfold jl;by_cases hi:16*x5+k<nl
  .rw[bx hi]at hy
   subst hy;have cV:(!((((a+(16*x5+k):Nat):Int))==0))=true:=by
    have:=hL.two;rw[dM.2 AC];rfl
   rw[cV,aQ (AC:(x5:Int)*16+(k:Int)<(nl:Int)),kT FS,ae];have h1:=hL.two;have h2:=hL.top;have⟨t1,t2⟩:=Gw hM (k:=a+(16*x5+k)) AC AC (hP _ ⟨aJ _,AC⟩);have⟨lf,f1,f2,f3⟩:=hL.at' (16*x5+k) hi;rw[f1]at t1;have hlg:=Znn hS lf (7*(16*x5+k)) { v with W:=bA K.m v.W ((a+(16*x5+k):Nat):Int) } f3;have hlm:kG K ((a+(16*x5+k):Nat):Int) (((x5:Int)*16+(k:Int))*7) v=some { v with W:=bA K.m v.W ((a+(16*x5+k):Nat):Int),ay:=v.ay++kJ SB used (7*(16*x5+k)) 7 } :=by
    unfold kG;rw[t1];grind
   rw[hlm];simp only;have⟨W',w1,w2⟩:=VE hS hL x5 r (k+1) { v with W:=bA K.m v.W ((a+(16*x5+k):Nat):Int),ay:=v.ay++kJ SB used (7*(16*x5+k)) 7 } (λb=>P b\/b=a+(16*x5+k)) h' t2 (λb hb=>by
    rintro(h3|h3)
    .exact hP b ⟨by have:=hb.1;omega,by have:=hb.2;omega⟩ h3
    .have:=hb.1;omega)
   refine⟨W',?_,w2.congr λb=>?_⟩
   .rw[show((k:Int)+1)=((k+1:Nat):Int) by omega,w1,hlen.symm,KX]
    grind
   .unfold gp
    grind
  .rw[aY hi]at hy
   subst hy;rw[show(!((0:Int)==0))=false from rfl,bP (AC:¬(x5:Int)*16+(k:Int)<(nl:Int)),kT FS,af];have⟨W',w1,w2⟩:=VE hS hL x5 r (k+1) v P h' hM (λb hb=>by have:=hb.1;have:=hb.2;omega);refine⟨W',?_,w2.congr λb=>?_⟩
   .have:=hL.all
    rw[show((k:Int)+1)=((k+1:Nat):Int) by omega,w1,hlen.symm,KX,Wa SB used _ 7,gR]
   .unfold gp
    grind
structure Zxw (K:bu) (a nl b:Nat):Prop where
 ge:a+nl<=b
 top:b+(nl+15)/16<=K.m
 at': ∀j,16*j<nl->∃l,ZA (fX K.img (b+j))= .bY l/\l.length=16/\∀i y,l[i]? =some y->y=if 16*j+i<nl then((a+(16*j+i):Nat):Int)else 0
theorem Vd {K:bu} {SB:Nat->aX} {used a nl b:Nat} (hS:NY K SB used) (hL:VJ K SB used a nl) (hF:Zxw K a nl b): ∀(l:ak) (k:Nat) (v:aI) (P:Nat->Prop),l.length+k=16->nl<=256->(∀i y,l[i]? =some y->y=if 16*(k+i)<nl then((b+(k+i):Nat):Int)else 0)->
  Mem K.m v.W P->(∀x,gp (b+k) (b+(nl+15)/16) x\/gp (a+16*k) (a+nl) x->¬P x)->
  ∃W',lC K (nl:Int) (k:Int) l v=some { v with W:=W',ay:=v.ay++kJ SB used (112*k) (112*l.length) } /\Mem K.m W' (λx=>P x\/(gp (b+k) (b+(nl+15)/16) x\/gp (a+16*k) (a+nl) x))
 |[],k,v,P,hk,hn,_,hM,_=>by
  refine⟨v.W,?_,hM.congr λx=>?_⟩
  .simp[kJ,lC]
  grind[gp]
 |y::r,k,v,P,hk,hn,h,hM,hP=>by
  have hy:=h 0 y rfl;rw[fE]at hy;have h': ∀i z,r[i]? =some z->z=if 16*(k+1+i)<nl then((b+(k+1+i):Nat):Int)else 0:=λi z hz=>by
   have:=h (i+1) z (by simpa using hz);rw[show k+(i+1)=k+1+i by omega]at this;exact this
  have hlen:(y::r).length=r.length+1:=rfl;have KX:kJ SB used (112*k) (112*(y::r).length)=kJ SB used (112*k) 112++kJ SB used (112*(k+1)) (112*r.length):=by
   rw[hlen,show 112*(r.length+1)=112+112*r.length by omega,NH,show 112*k+112=112*(k+1) by omega]
  rw[hlen]at hk;have g1:=hL.two;have g3:=hF.ge;have g4:=hF.top;have g5:=hL.all;unfold lC;by_cases hi:16*k<nl
  .rw[bx hi]at hy
   subst hy;have cV:(!((((b+k:Nat):Int))==0))=true:=by
    rw[dM.2 AC];rfl
   have Y9:((((b+k:Nat):Int))==0)=false:=Fd
   rw[cV,aQ (AC:(k:Int)*16<(nl:Int)),kT FS,Y9,af];have⟨t1,t2⟩:=Gw hM (k:=b+k) AC AC (hP _ (.inl ⟨aJ _,AC⟩));have⟨lf,f1,f2,f3⟩:=hF.at' k hi;rw[f1]at t1;rw[t1];simp only;have⟨W2,u1,u2⟩:=VE hS hL k lf 0 { v with W:=bA K.m v.W ((b+k:Nat):Int) } (λx=>P x\/x=b+k) AC t2 (λx hx=>by
    have h1:=hx.1;have h2:=hx.2;rintro(h3|h3)
    .exact hP x (.inr ⟨AC,AC⟩) h3
    .omega)
   rw[f2]at u1 u2;rw[show(0:Int)=((0:Nat):Int)from rfl,u1];simp only;have⟨W',w1,w2⟩:=Vd hS hL hF r (k+1) { v with W:=W2,ay:=v.ay++kJ SB used (7*(16*k+0)) (7*16) } (λx=>(P x\/x=b+k)\/gp (a+(16*k+0)) (a+min (16*k+0+16) nl) x) AC hn h' u2 (λx hx=>by
    have HG:(b+(k+1)<=x/\x<b+(nl+15)/16)\/(a+16*(k+1)<=x/\x<a+nl):=hx;rintro((h3|h3)|h3)
    .refine hP x ?_ h3
     rcases HG with h4|h4
     .exact .inl ⟨AC,h4.2⟩
     .exact .inr ⟨AC,h4.2⟩
    .omega
    .have h6:=h3.2
     omega)
   refine⟨W',?_,w2.congr λx=>?_⟩
   .rw[show((k:Int)+1)=((k+1:Nat):Int) by omega,w1,KX]
    rw[show 7*(16*k+0)=112*k by omega];grind
   .unfold gp
    grind
  .rw[aY hi]at hy
   subst hy;rw[show(!((0:Int)==0))=false from rfl,bP (AC:¬(k:Int)*16<(nl:Int)),kT FS,kT FS];have⟨W',w1,w2⟩:=Vd hS hL hF r (k+1) v P AC hn h' hM (λx hx=>by
    have HG:(b+(k+1)<=x/\x<b+(nl+15)/16)\/(a+16*(k+1)<=x/\x<a+nl):=hx;omega)
   refine⟨W',?_,w2.congr λx=>?_⟩
   .rw[show((k:Int)+1)=((k+1:Nat):Int) by omega,w1,KX,Wa SB used _ 112,gR]
   .unfold gp
    grind
theorem Znr (h:u<=1792):Cb (u:Int)=(((u+6)/7:Nat):Int):=by
 unfold Cb p9;rw[aQ (AC:(u:Int)>=0),aQ (AC:(u:Int)<=1792),BA,ae,Zb (x:=(u:Int)+7),Zb (x:=(u:Int)+7-1),show((u:Int)+7-1)=((u+6:Nat):Int) by omega,show(((u+6:Nat):Int).tdiv 7)=(((u+6)/7:Nat):Int)from rfl];exact Zb
theorem Zwt (a n i:Nat) (h:i<n):(ZC a n)[i]? =some ((a+i:Nat):Int):=by
 grind[ZC]
theorem Zva (a n i:Nat) (h:i<n):(ZC a n).getD i 0=((a+i:Nat):Int):=by
 rw[cz,Zwt a n i h];rfl
theorem Zzi (SB:Nat->aX) (used n:Nat) (h:used<=n):kJ SB used 0 n=(List.range used).map SB:=by
 have e:n=used+(n-used):=AC
 rw[e,NH,Wa SB used (0+used) (n-used),fP];unfold kJ;rw[List.filter_eq_self.2 λk hk=>?_,Mh];rw[List.mem_range'_1]at hk;rw[bq];omega
theorem Zrc (gens At free:ak) (f i:Nat) (x:aX) (h:(mY gens At free f)[i]? =some x):x=if f+i<gens.length then gC gens At free (f+i)else gQ:=by
 have hi:i<7:=by
  grind[mY,An]
 unfold mY at h;rw[Vr _ _ _ _ _ _ hi,aQ hi,dt]at h;by_cases hf:f+i<gens.length
 .rw[aR hf]at h
  rw[bx hf];grind
 grind
theorem Zv2 (hR: ∀k,k<gens.length->oW (gC gens At free k)=true) (f:Nat):(lT (qo (mY gens At free f))).length=64/\ZA (lT (qo (mY gens At free f)))= .leaf (mY gens At free f)/\(mY gens At free f).length=7:=by
 have hl:(mY gens At free f).length=7:=FS
 have⟨s,h1,h2,h3⟩:=Zuj hl (qP.2 λx hx=>by
  have⟨i,hi⟩:=Dz.1 hx;rw[Zrc _ _ _ _ _ _ hi];split
  .grind
  .rfl)
 rw[h1];exact⟨h2,h3,hl⟩
theorem ZwF
  (hF:Fin K.img (kI gens free m).2) (hb:(kI gens free m).2.next<=K.m) (h3:K.m<=3072) (h2:2<=m.next) (hg:gens.length<=1792)
  (hR: ∀k,k<gens.length->oW (gC gens m.At free k)=true) (hu:K.sup.used=(gens.length:Int)) (hf:K.sup.bY=((kI gens free m).1:Int))
  (hS: ∀k,k<gens.length->nk K.sup (gC gens m.At free k)=true) (hM:Mem K.m v.W P) (hP: ∀b,gp m.next (kI gens free m).2.next b->¬P b):
  ∃W',lD K v=some { v with W:=W',ay:=v.ay++(List.range gens.length).map (gC gens m.At free) } /\Mem K.m W' (λb=>P b\/gp m.next (kI gens free m).2.next b):=by
 have⟨SB,AT⟩: ∃SB,gC gens m.At free=SB:=⟨_,rfl⟩;have j5:=Zv2 hR;by_cases h0:gens.length=0
 .have:gens=[]:=z8.1 h0
  subst this;have e:kI [] free m=(0,m):=rfl;rw[e];unfold lD;rw[hu];refine⟨v.W,?_,hM.congr λb=>?_⟩
  .simp
  .unfold gp
   grind
 .have⟨l1,l2,l3,l4⟩:=Zu7 (gens:=gens) (free:=free) (B:=K.img) gens.length 0 [] m AC AC (λg=>(j5 g).1)
  have oN:=Ex.iA gens free gens.length 0 [] m;have⟨R,O2⟩: ∃R,iA gens free gens.length 0 [] m=R:=⟨_,rfl⟩;rw[O2]at l1 l2 l3 l4 oN;rw[gR,w9]at l1;rw[w9]at l2 l4;have⟨nl,Be⟩: ∃nl,(gens.length+6)/7=nl:=⟨_,rfl⟩;rw[Be]at l1 l2 l4;have JV:R.1.length=nl:=by rw[l1,uN]
  have⟨T,Yb⟩: ∃T,jn R.1 16 0 (List.replicate 16 0) R.2=T:=⟨_,rfl⟩;have qI:=Ex.jn R.1 16 0 (List.replicate 16 0) R.2;have e:kI gens free m=(T.2.next,gx T.2 (lT (mM T.1))):=by
   unfold kI;rw[O2];simp only;rw[show Nat.beq R.1.length 0=false by
    rw[JV];cases nl with
    |zero=>omega
    |succ k=>rfl,af,Yb]
  rw[e]at hF hb hf hP⊢;have hn:(gx T.2 (lT (mM T.1))).next=T.2.next+1:=rfl;rw[hn]at hb hP;simp only at hF hf;rw[Yb]at qI;have hle:=qI.le;have OZ:=hF.back (Ex.put _ _);have hFR:=OZ.back qI;have dZ: ∀j,(∀k∈lG R.1 j,k=0\/2<=k/\k<3072)/\(lG R.1 j).length=16/\∀i y,(lG R.1 j)[i]? =some y->y=if 16*j+i<nl then((m.next+(16*j+i):Nat):Int)else 0:=λj=>by
   have hlen:(lG R.1 j).length=16:=by unfold lG;exact D0 _ _ _
   have da: ∀i y,(lG R.1 j)[i]? =some y->y=if 16*j+i<nl then((m.next+(16*j+i):Nat):Int)else 0:=λi y hy=>by
    have hi:i<16:=by
     have:=(eE.1 hy).1;omega
    unfold lG at hy;rw[VL _ _ _ _ hi,aQ hi,dt,JV]at hy;by_cases hj:16*j+i<nl
    .rw[aR hj,l1,Zva _ _ _ hj]at hy
     rw[bx hj];grind
    grind
   refine⟨λk hk=>?_,hlen,da⟩;have⟨i,hi⟩:=Dz.1 hk;rw[da i k hi];omega
  have ec: ∀j,(lT (mM (lG R.1 j))).length=64/\ZA (lT (mM (lG R.1 j)))= .bY (lG R.1 j):=λj=>by
   have⟨s,a1,a2,a3⟩:=ZtA (dZ j).2.1 (dZ j).1;rw[a1];exact⟨a2,a3⟩
  have⟨f1,f2,f3,f4,f5⟩:=Zrl (leaves:=R.1) (B:=K.img) 16 0 (List.replicate 16 0) R.2 AC AC Do AC (λg=>(ec g).1) (λj _=>by
   rw[cz,Fy];split<;>rfl)
  rw[Yb]at f1 f2 f3 f4 f5;rw[JV,l2,w9]at f1;have f5:=f5 OZ;have l4:=l4 hFR;rw[JV,l2]at f5;have adV:(∀k∈T.1,k=0\/2<=k/\k<3072)/\∀i y,T.1[i]? =some y->y=if 16*i<nl then((m.next+nl+i:Nat):Int)else 0:=by
   have da: ∀i y,T.1[i]? =some y->y=if 16*i<nl then((m.next+nl+i:Nat):Int)else 0:=λi y hy=>by
    have:=f4 i;rw[cz,hy,aY (Nat.not_lt_zero i),JV,l2,w9]at this;exact this
   refine⟨λk hk=>?_,da⟩;have⟨i,hi⟩:=Dz.1 hk;rw[da i k hi];omega
  have⟨s,a1,a2,a3⟩:=ZtA f3 adV.1;have hs:lT (mM T.1)=s:=by rw[a1];rfl
  rw[hs]at hF;have xK:=hF.put a2 AC;have hSI:NY K SB gens.length:=⟨hu,λk hk=>by rw[<-AT];exact hS k hk⟩;have hLA:VJ K SB gens.length m.next nl:=⟨h2,AC,AC,λt ht=>by
   have:=l4 t ht;rw[fq]at this;rw[this];refine⟨_,(j5 _).2.1,(j5 _).2.2,λi x hx=>?_⟩;rw[Zrc _ _ _ _ _ _ hx,AT]⟩
  have hFA:Zxw K m.next nl (m.next+nl):=⟨aJ _,AC,λj hj=>by
   have:=f5 j AC hj;rw[w9]at this;rw[this];exact⟨_,(ec j).2,(dZ j).2.1,(dZ j).2.2⟩⟩
  have⟨t1,t2⟩:=Gw hM (k:=T.2.next) AC AC (hP _ ⟨AC,AC⟩);rw[xK,a3]at t1;have⟨W',w1,w2⟩:=Vd hSI hLA hFA T.1 0 { v with W:=bA K.m v.W (T.2.next:Int) } (λb=>P b\/b=T.2.next) AC AC (λi y hy=>by
   rw[fq];exact adV.2 i y hy) t2 (λx hx=>by
   rintro(h|h)
   .refine hP x ?_ h
    unfold gp at hx⊢;omega
   .unfold gp at hx
    omega)
  refine⟨W',?_,w2.congr λb=>?_⟩
  .unfold lD
   rw[hf,t1,hu,dM.2 (AC:(gens.length:Int)≠0),af];simp only;rw[Znr hg,Be,show(0:Int)=((0:Nat):Int)from rfl,w1,f3,Zzi SB _ _ AC,AT]
  .unfold gp
   rw[hn];constructor
   .rintro((h|h)|h)
    .exact .inl h
    .exact .inr AC
    omega
   grind
def Pl (m m':cd) (e:aP):Prop:=(m.next:Int)<=m'.At.getD e.slot.toNat 0/\m'.At.getD e.slot.toNat 0<(m'.next:Int)
structure NS (n:Nat) (es:List aP):Prop where
 nd:(es.map (·.slot.toNat)).Nodup
 lt: ∀e∈es,e.slot.toNat<n
theorem NS.sub (h:NS n es) (k:eu.Sublist es):NS n eu:=⟨List.Nodup.sublist (k.map _) h.nd,λe he=>h.lt e (k.subset he)⟩
theorem NS.two {A B:List aP} (h:NS n (A++B)) (he:e∈A): ∀e'∈B,e'.slot.toNat≠e.slot.toNat:=λe' Hg hc=>by
 have:=h.nd;rw[eV,jU]at this;exact this.2.2 _ Fd _ Fd hc.symm
theorem ZyC (hl:es.length=2^j) (hn:NS m.At.length es) (hk: ∀e∈es.drop 1,Pl m (cM j es m).2 e): ∀e∈es,Pl m (gM j es m).2 e:=by
 cases es with
 |nil=>intro e he;cases he
 |cons e0 t=>
  intro e he;have hex:=(Ex.kids j (e0::t) m).le;have iX:(cM j (e0::t) m).2.At.length=m.At.length:=(xl j (e0::t) m).2.1;have h1:(gM j (e0::t) m).2.next=(cM j (e0::t) m).2.next+1:=rfl;have h2:(gM j (e0::t) m).2.At=(cM j (e0::t) m).2.At.set e0.slot.toNat ((cM j (e0::t) m).2.next:Int):=rfl;unfold Pl;rw[h1,h2];rcases ep.1 he with rfl|he
  .rw[cz,ke (by rw[iX];exact hn.lt e pz)]
   grind
  .have⟨k1,k2⟩:=hk e he
   have cV:e0.slot.toNat≠e.slot.toNat:=λhc=>NS.two (A:=[e0]) (B:=t) hn pz e he hc.symm
   rw[cz,ig cV,<-cz];omega
theorem Wu: ∀(j:Nat) (es:List aP) (m:cd),2^j<=es.length->NS m.At.length (es.take (2^j))->∀e∈(es.take (2^j)).drop 1,Pl m (cM j es m).2 e
 |0,es,m,_,_,e,he=>by
  grind
 |j+1,es,m,hl,hn,e,he=>by
  have e2:2^(j+1)=2^j+2^j:=by rw[tn];omega
  have hp:=Ab j;have⟨iE,CN⟩: ∃iE,(es.drop (2^j)).take (2^j)=iE:=⟨_,rfl⟩;have⟨m1,fS⟩: ∃m1,(cM j es m).2=m1:=⟨_,rfl⟩;have hk:(cM (j+1) es m).2=(gM j iE m1).2:=by rw[<-fS,<-CN];rfl
  have ja:es.take (2^(j+1))=es.take (2^j)++iE:=by rw[e2,uH,CN]
  have lM:iE.length=2^j:=by rw[<-CN,cB,dY];omega
  have oN:Ex m m1:=by rw[<-fS];exact Ex.kids j es m
  have qI:=Ex.tree j iE m1;have le1:=oN.le;have le2:=qI.le;have iX:m1.At.length=m.At.length:=by rw[<-fS];exact(xl j es m).2.1
  rw[ja]at hn he;rw[hk];rw[QD (by rw[cB];omega)]at he;rcases ga.1 he with he|he
  .have h1:=Wu j es m AC (hn.sub Do) e he
   rw[fS]at h1;unfold Pl at h1⊢;rw[VN j iE m1 _ (hn.two (Me he))];omega
  .have uc:NS m1.At.length iE:=by rw[iX];exact hn.sub Do
   have j6:iE.take (2^j)=iE:=Fd
   have h1:=ZyC lM uc (λe he=>by
    have:=Wu j iE m1 AC (by rw[j6];exact uc) e (by rw[j6];exact he);exact this) e he
   grind[Pl]
theorem Zz4 (hl:es.length=2^j) (hn:NS m.At.length es): ∀e∈es,Pl m (gM j es m).2 e:=
 have ht:es.take (2^j)=es:=Fd
 ZyC hl hn λe he=>Wu j es m AC (by rw[ht];exact hn) e (by rw[ht];exact he)
theorem Vu {cnt:Nat} : ∀(c k:Nat) (hs:ak) (rest:List aP) (m:cd),k+c=12->rest.length=cnt/2^k*2^k->cnt<4096->NS m.At.length rest->∀e∈rest,Pl m (eR cnt c k hs rest m).2 e
 |0,k,hs,rest,m,hk,hr,hc,_,e,he=>by
  grind
 |c+1,k,hs,rest,m,hk,hr,hc,hn,e,he=>by
  have vp:=ZvC cnt k;unfold eR;cases hb:eN cnt k
  .rw[af];unfold eN at hb;rw[tp]at hb;rw[aY hb]at vp;exact Vu c (k+1) hs rest m AC AC hc hn e he
  .rw[ae];unfold eN at hb;rw[bq]at hb;rw[bx hb]at vp;have ja:rest=rest.take (2^k)++rest.drop (2^k):=Do
   have av:(rest.take (2^k)).length=2^k:=by rw[cB];omega
   have⟨T,hT⟩: ∃T,gM k (rest.take (2^k)) m=T:=⟨_,rfl⟩;have oN:Ex m T.2:=by rw[<-hT];exact Ex.tree k _ m
   have iX:T.2.At.length=m.At.length:=by rw[<-hT];exact(M1 k _ m).2.1
   have qI:=Ex.eR cnt c (k+1) (hs.set k (T.1:Int)) (rest.drop (2^k)) T.2;have le1:=oN.le;have le2:=qI.le;simp only;rw[hT];rw[ja]at he hn;rcases ga.1 he with he|he
   .have h1:=Zz4 av (hn.sub Fd) e he
    rw[hT]at h1;unfold Pl at h1⊢;rw[IT cnt c (k+1) _ _ T.2 _ (hn.two he)];omega
   .have h1:=Vu c (k+1) (hs.set k (T.1:Int)) (rest.drop (2^k)) T.2 AC (by rw[dY];omega) hc (by rw[iX];exact hn.sub Fd) e he
    grind[Pl]
theorem ZtG: ∀(l:List dw) (eM:ak) (m:cd),(∀h∈l,h.bz.length<4096)->NS m.At.length (l.map (·.bz)).flatten->∀e∈(l.map (·.bz)).flatten,Pl m (gz l eM m).2 e
 |[],_,_,_,_,e,he=>by cases he
 |x::r,eM,m,h4,hn,e,he=>by
  rw[kf,vH]at hn he;have⟨T,hT⟩: ∃T,roots x.bz m=T:=⟨_,rfl⟩;have oN:Ex m T.2:=by rw[<-hT];exact Ex.eR _ 12 0 _ _ m
  have iX:T.2.At.length=m.At.length:=by rw[<-hT];exact(IK x.bz m).2.1
  have⟨m2,eG⟩: ∃m2,gx T.2 (pZ ⟨x.name,x.bz.length,T.1⟩)=m2:=⟨_,rfl⟩;have qI:Ex T.2 m2:=by rw[<-eG];exact Ex.put _ _
  have ads:m2.At=T.2.At:=by rw[<-eG];rfl
  have hE:gz (x::r) eM m=gz r (eM++[(T.2.next:Int)]) m2:=by
   grind[gz]
  have K9:=Ex.gz r (eM++[(T.2.next:Int)]) m2;have le1:=oN.le;have le2:=qI.le;have le3:=K9.le;rw[hE];rcases ga.1 he with he|he
  .have h1:=Vu (cnt:=x.bz.length) 12 0 (List.replicate 12 0) x.bz m rfl Do (h4 x pz) (hn.sub Do) e he
   have h2:Pl m T.2 e:=by rw[<-hT];exact h1
   unfold Pl at h2⊢;rw[Ny r _ m2 _ (hn.two he),ads];omega
  .have h1:=ZtG r (eM++[(T.2.next:Int)]) m2 Fd (by rw[ads,iX];exact hn.sub Do) e he
   grind[Pl]
theorem IE {k:Int} : ∀(l:ak) (c:Int),k∉l->nX k l c=c
 |[],_,_=>rfl
 |[_],_,_=>rfl
 |a::b::r,c,h=>by
  unfold nX;rw[dM.2 λe=>h (by rw[e];simp),af];exact IE (b::r) c λe=>h (tj _ e)
theorem Nt {k:Int} (R:ak) (c:Int): ∀(A:ak),(A++k::R).Nodup->nX k (A++k::R) c=match R with
  |[]=>c
  |b::_=>aq (b+1)
 |[],h=>by
  cases R with
  |nil=>rfl
  |cons b r=>
   rw[gR]at h⊢;unfold nX;rw[Ad,ae];exact IE _ _ (qQ.1 h).1
 |[a],h=>by
  have hn:=(qQ.1 h).1;show nX k (a::k::R) c=_;unfold nX;rw[dM.2 λe=>hn (by rw[e];simp),af];exact Nt R c [] (qQ.1 h).2
 |a::b::A,h=>by
  have hn:=(qQ.1 h).1;show nX k (a::b::(A++k::R)) c=_;unfold nX;rw[dM.2 λe=>hn (by rw[e];simp),af];exact Nt R c (b::A) (qQ.1 h).2
structure W6 (K:bu) (gens At free:List Int) (used:Nat):Prop where
 u:K.sup.used=(used:Int)
 le:used<=1792
 ok: ∀k∈free,0<=k/\k<(used:Int)/\At.getD k.toNat 0=0/\gens.getD k.toNat 0<K.sup.g
 nd:free.Nodup
theorem Zo8 {K:bu} {gens At free:ak} {used:Nat} (hI:W6 K gens At free used): ∀(R A:ak) (fl:List Bool) (v:aI) (f:Nat),free=A++R->R.length<f->v.ay=(List.range used).map (gC gens At free)->fl.length=used->
  (∀j,j<used->fl.getD j false=decide ((j:Int)∈A))->∃mh,jZ K f fl (xu R) v=some (mh, { v with free:=v.free++R })/\∀j,j<used->mh.getD j false=decide ((j:Int)∈free)
 |[],A,fl,v,f,hA,hf,_,_,dZ=>by
  obtain⟨f,rfl⟩: ∃g,f=g+1:=by simp_all
  rw[fP]at hA;refine⟨fl,?_,Fd⟩;simp[jZ,xu]
 |k::r,A,fl,v,f,hA,hf,hv,aiM,dZ=>by
  obtain⟨f,rfl⟩: ∃g,f=g+1:=⟨f-1,by simp at hf;omega⟩;have hk:k∈free:=by rw[hA];simp
  have⟨k0,k1,k2,k3⟩:=hI.ok k hk;have hle:=hI.le;obtain⟨n,rfl⟩: ∃n:Nat,k=(n:Int):=⟨k.toNat,AC⟩;rw[bn]at k2 k3;have eJ:=hI.nd;rw[hA]at eJ;have hh:xu ((n:Int)::r)=(n:Int)+1:=by
   show aq ((n:Int)+1)=_;exact Zb
  have C7:v.ay[n]? =some (gC gens At free n):=by
   rw[hv,nf,Fw AC];rfl
  have Kr:(gC gens At free n).live=false:=by
   show(!(At.getD n 0==0))=false;rw[k2];rfl
  have Hl:(gC gens At free n).gen=gens.getD n 0:=rfl;have hblk:(gC gens At free n).block=xu r:=by
   show nX (n:Int) free (At.getD n 0)=_;rw[k2];have h1:=Nt (k:=(n:Int)) r 0 A eJ;rw[<-hA]at h1;rw[h1];cases r<;>rfl
  have⟨mh,h1,h2⟩:=Zo8 hI r (A++[(n:Int)]) (fl.set n true) { v with free:=v.free++[(n:Int)] } f (by rw[hA,dL];rfl) (by simp at hf;omega) hv (by rw[lz];exact aiM) (λj hj=>by
   rw[cz];by_cases hjn:n=j
   .grind
   .rw[ig hjn,<-cz,dZ j hj]
    have:(j:Int)≠(n:Int):=AC
    simp[this])
  refine⟨mh,?_,h2⟩;unfold jZ;rw[hh,dM.2 (AC:((n:Int)+1)≠0),af,hI.u,aR,show((n:Int)+1-1).toNat=n by omega,C7];grind
theorem Zpe {K:bu} : ∀(l:List aX) (fl:List Bool),(∀i x,l[i]? =some x->vV K (fl.getD i false) x=true)->nj K fl l=true
 |[],_,_=>rfl
 |x::r,fl,h=>by
  unfold nj;rw[h 0 x rfl,dt];refine Zpe r _ λi y hy=>?_
  have:=h (i+1) y (by simpa using hy);rw[cz,w4,<-cz,tm 1 i];exact this
theorem Zw9 (hI:W6 K gens At free used) (hv:v.ay=(List.range used).map (gC gens At free)) (hf:K.sup.free=xu free) (hl:free.length<=used)
  (hr: ∀j,j<used->At.getD j 0≠0\/gens.getD j 0=K.sup.g\/(j:Int)∈free):oa K v=some { v with free:=v.free++free } :=by
 have⟨fl,h1,h2⟩:=Zo8 hI free [] (List.replicate used false) v (used+1) rfl AC hv Do Fd;unfold oa xm;rw[hI.u,bn,hf,h1];simp only;rw[Zpe,ae];intro i x hx;rw[hv,nf]at hx;have hi:i<used:=by
  grind
 rw[Fw hi]at hx;cases hx;unfold vV;rcases hr i hi with h|h|h
 .have:(gC gens At free i).live=true:=by
   show(!(At.getD i 0==0))=true;rw[dM.2 h];rfl
  rw[this];rfl
 .have:(gC gens At free i).gen=K.sup.g:=h
  rw[this,Ad];cases(gC gens At free i).live<;>rfl
 grind
structure ZxB (x:dW) (dx:Int) (B:List UInt8):Prop where
 ok:ox (eS x dx)
 room:(fN x).2.next+lP x<=x.blocks.toNat
 fin:Fin B (ku (kL x) (lP x) 0 (fN x).2)
 len:B.length=64*x.blocks.toNat
theorem ZnG {x:dW} {B:aj} {s:cm} (hb:vY x dx place=some (B,s)):s=eS x dx/\ZxB x dx B:=by
 unfold vY at hb;cases hc:(decide (((kL x).length:Int)>x.blocks)|| !ZP (eS x dx))
 .rw[hc,af]at hb;have⟨h1,h2⟩:=yf.1 hc;rw[tp]at h1;have hS:ox (eS x dx):=(xk _).1 (by rw[<-L8];exact h2);have zC:(kL x).length=(fN x).2.next+lP x:=uN _ _;have js:x.blocks=(eS x dx).blocks:=rfl;have⟨g1,g2,_⟩:=ZM hS.g;rw[<-js]at g1 g2;have hex:=Ex.all x;have hC:(ku (kL x) (lP x) 0 (fN x).2).B.length=64*x.blocks.toNat:=by
   rw[hex.len];simp[jd,ZR]
  have hp:=Zpy hS;have hk:=ZlX (kL x) (lP x) 0 (fN x).2;have⟨C,hCd⟩: ∃C,ku (kL x) (lP x) 0 (fN x).2=C:=⟨_,rfl⟩;rw[hCd]at hb hC hk;cases hb;have hlen:(qK C.B (64*(place%2).toNat) (wb (eS x dx))).length=C.B.length:=by
   unfold qK;grind
  refine⟨rfl,hS,AC,?_,by rw[hlen,hC]⟩;rw[hCd];refine⟨by rw[hC,hk.2];omega,λk h2 h3=>?_⟩;exact Zpz AC hp
 .rw[hc]at hb;cases hb
theorem ZvD (n k:Nat):cD (List.replicate n 0) k=false:=by
 unfold cD eN;rw[cz,Fy];split<;>simp
theorem Zvj {m:Nat} (h:16<=m:=by omega):Mem m (gD m [0,1]) (λb=>b=0\/b=1):=by
 have h0:(List.replicate ((m+63)/64) 0).length=(m+63)/64:=Do
 have h1:(bA m (List.replicate ((m+63)/64) 0) 0).length=(m+63)/64:=by rw[np];exact h0
 refine⟨by show(bA m (bA m _ 0) 1).length=_;rw[np];exact h1,Gt (Gt λw hw=>by rw[List.mem_replicate]at hw;omega),λb=>?_⟩;show cD (bA m (bA m (List.replicate ((m+63)/64) 0) 0) 1) b=true↔_;rw[oz h1,oz h0,ZvD];have m0:fe m 0=true:=by grind[fe]
 have m1:fe m 1=true:=by grind[fe]
 rw[m0,m1];simp
structure QI (x:dW) (A:List Int) (n:Nat):Prop where
 live: ∀e∈Zp x,2<=A.getD e.slot.toNat 0/\A.getD e.slot.toNat 0<(n:Int)
 dead: ∀k:Nat,(k:Int)∉(Zp x).map (·.slot)->A.getD k 0=0
theorem Ztk {x:dW} (hm:lY x):NS x.gens.length (Zp x):=by
 have eJ:=(jU.1 hm.nodup).1;have sK: ∀e∈Zp x,0<=e.slot/\e.slot<(x.gens.length:Int):=λe he=>hm.range _ Fd
 refine⟨?_,Fd⟩;have:(Zp x).map (·.slot.toNat)=((Zp x).map (·.slot)).map Int.toNat:=by rw[uF];rfl
 rw[this];unfold List.Nodup at eJ⊢;rw[FF];refine List.Pairwise.imp_of_mem (λ{a b} ha hb fL=>?_) eJ;grind
theorem Zzn {x:dW} (hm:lY x):(Zp x).length<=x.gens.length:=by
 have:=HO x.gens.length ((Zp x).map (·.slot)) (jU.1 hm.nodup).1 λk hk=>hm.range k (Dy _ hk)
 rwa [mC]at this
theorem Zs9 {x:dW} (hm:lY x) {h:dw} (hh:h∈x.aD):h.bz.length<=x.gens.length:=by
 refine ij ?_ (Zzn hm);have⟨A,B,hAB⟩:=List.append_of_mem hh;grind[Zp]
theorem ae7 {x:dW} (hm:lY x) (h4:x.gens.length<=1792):QI x (gz x.aD [] (jd x)).2.At (gz x.aD [] (jd x)).2.next:=by
 refine⟨λe he=>?_,λk hk=>?_⟩
 .have:=ZtG x.aD [] (jd x) (λh hh=>by have:=Zs9 hm hh;omega) (by
   have hl:(jd x).At.length=x.gens.length:=by unfold jd;simp
   rw[hl];exact Ztk hm) e he
  exact this
 .rw[Ny]
  .grind[jd]
  .intro e he hc
   have:=hm.range e.slot (Dy _ (jK.2 ⟨e,he,rfl⟩));exact hk (jK.2 ⟨e,he,AC⟩)
theorem UY {x:dW} (hm:lY x) (hA:QI x A n) (hn:n<=3072) (hg:x.g<=4294967295) (h4:x.gens.length<=1792) (hk:k<x.gens.length):
  oW (gC x.gens A x.free k)=true/\(1<=x.gens.getD k 0/\x.gens.getD k 0<=x.g)/\(A.getD k 0=0->x.gens.getD k 0=x.g->(gC x.gens A x.free k).block=0)/\(A.getD k 0≠0->(gC x.gens A x.free k).block=A.getD k 0)/\(A.getD k 0≠0↔(k:Int)∈(Zp x).map (·.slot)):=by
 have Hl:1<=x.gens.getD k 0/\x.gens.getD k 0<=x.g:=by
  rw[cz,cc hk];exact hm.gens _ (jj hk)
 have dR:A.getD k 0≠0↔(k:Int)∈(Zp x).map (·.slot):=by
  constructor
  .intro h
   rcases Classical.em ((k:Int)∈(Zp x).map (·.slot))with h1|h1
   .exact h1
   .exact absurd (hA.dead k h1) h
  .intro h
   have⟨e,he,hek⟩:=jK.1 h;have:=(hA.live e he).1;rw[show e.slot.toNat=k by omega]at this;omega
 have hblk:(gC x.gens A x.free k).block=nX (k:Int) x.free (A.getD k 0):=rfl;have Kr:(gC x.gens A x.free k).live= !(A.getD k 0==0):=rfl;have mT:(gC x.gens A x.free k).gen=x.gens.getD k 0:=rfl;have eJ:=hm.nodup;have eQ:A.getD k 0≠0->(gC x.gens A x.free k).block=A.getD k 0:=λh=>by
  rw[hblk];refine IE _ _ λhf=>?_
  grind
 have ac8:A.getD k 0=0->x.gens.getD k 0=x.g->(gC x.gens A x.free k).block=0:=λh h1=>by
  rw[hblk,IE _ _ λhf=>?_,h];have:=hm.low _ hf;grind[ix]
 refine⟨?_,Hl,ac8,eQ,dR⟩;unfold oW;rw[mT,Kr,bP (AC:¬x.gens.getD k 0<0),bP (AC:¬x.gens.getD k 0>4294967295)];by_cases h0:A.getD k 0=0
 .have h1:0<=(gC x.gens A x.free k).block/\(gC x.gens A x.free k).block<=1792:=by
   rw[hblk,h0];rcases Classical.em ((k:Int)∈x.free)with hf|hf
   .have⟨P,R,O1⟩:=List.append_of_mem hf
    have h2:=Nt (k:=(k:Int)) R 0 P (by rw[<-O1];grind);rw[<-O1]at h2;rw[h2];cases R with
    |nil=>simp
    |cons b r=>
     have:=hm.range b Fd;simp only;rw[Zb];omega
   .rw[IE _ _ hf]
    omega
  rw[h0];grind
 .have h1:=eQ h0
  have⟨e,he,hek⟩:=jK.1 (dR.1 h0);have h2:=hA.live e he;rw[show e.slot.toNat=k by omega]at h2;rw[dM.2 h0,h1];grind[iU]
theorem ZuO (x:dW):(Zp x).length=mg x.aD:=by
 unfold Zp mg;rw[List.length_flatten,uF];rfl
theorem ZwL {x:dW} (hm:lY x) (hA:QI x A n) (hn:n<=3072) (hg:x.g<=4294967295) (h4:x.gens.length<=1792):(((List.range x.gens.length).map (gC x.gens A x.free)).filter (·.live)).length=mg x.aD:=by
 rw[List.filter_map,mC,<-ZuO];have eJ:=(Ztk hm).nd;have:((List.range x.gens.length).filter ((λs:aX=>s.live)∘gC x.gens A x.free)).Perm ((Zp x).map (·.slot.toNat)):=by
  rw[List.perm_ext_iff_of_nodup (List.Nodup.sublist Mb List.nodup_range) eJ];intro k;rw[FD,uG];show(k<x.gens.length/\(!(A.getD k 0==0))=true)↔_;constructor
  .rintro⟨h1,h2⟩
   have h3:=(UY hm hA hn hg h4 h1).2.2.2.2.1 (by
    grind)
   grind
  .intro h
   have⟨e,he,hek⟩:=jK.1 h;have sK:=hm.range _ (Dy _ (jK.2 ⟨e,he,rfl⟩));have h1:k<x.gens.length:=AC
   refine⟨h1,?_⟩;have h3:=(UY hm hA hn hg h4 h1).2.2.2.2.2 Fd;rw[dM.2 h3];rfl
 rw[this.length_eq,mC]
structure Xl (x:dW):Prop where
 k: ∀e∈Zp x, -9223372036854775808<=e.key/\e.key<=9223372036854775807
 v: ∀e∈Zp x, -9223372036854775808<=e.value/\e.value<=9223372036854775807
theorem Zzr {x:dW} (hm:lY x) (hr:Xl x) {B:aj} (fG:ox (eS x dx)) (C6:(fN x).2.next<=x.blocks.toNat) (F2:Fin B (fN x).2) (hlen:x.blocks.toNat<=B.length/64):
  ∃v,nb (jJ B (eS x dx))=some (some v)/\na (eS x dx) v=x/\Mem x.blocks.toNat v.W (λb=>b<(fN x).2.next):=by
 have⟨g1,g2,g3,g4,g5,g6⟩:=ZM hm.Cz;have dR:=hm.cW;have h4:x.gens.length<=1792:=AC
 have⟨t,ht⟩: ∃t,gz x.aD [] (jd x)=t:=⟨_,rfl⟩;have hd:lh x=(match sf t.1 with
  |none=>(0,t.2)
  |some s=>(t.2.next,gx t.2 s)):=by rw[<-ht];rfl
 have Yq:(lh x).2.At=t.2.At:=by
  rw[hd];cases sf t.1<;>rfl
 have hdx:Ex t.2 (lh x).2:=by
  rw[hd];cases sf t.1 with
  |none=>exact Ex.refl _
  |some s=>exact Ex.put _ _
 have Bi:Ex (jd x) t.2:=by rw[<-ht];exact Ex.gz _ _ _
 have h2x:Ex (lh x).2 (fN x).2:=Ex.kI x.gens x.free _;have F1:=F2.back h2x;have Ft:=F1.back hdx;have m02:(jd x).next=2:=rfl;have l0:=Bi.le;have l1:=hdx.le;have l2:=h2x.le;have hA:=ae7 hm h4;rw[ht]at hA;have⟨K,hK⟩: ∃K,jJ B (eS x dx)=K:=⟨_,rfl⟩;have Km:K.m=x.blocks.toNat:=by rw[<-hK];rfl
 have Ki:K.img=B:=by rw[<-hK];rfl
 have Ks:K.sup=eS x dx:=by rw[<-hK];rfl
 have Ku:K.sup.used=(x.gens.length:Int):=by rw[Ks];rfl
 have Kg:K.sup.g=x.g:=by rw[Ks];rfl
 have JW: ∀k,k<x.gens.length->_:=λk hk=>UY hm hA AC g6 h4 (k:=k) hk
 have⟨SB,AT⟩: ∃SB,gC x.gens t.2.At x.free=SB:=⟨_,rfl⟩;have hW:nb K=some (om K):=by
  unfold nb;rw[Ks,(xk _).2 fG,ae,Ki,aQ (show(eS x dx).blocks<=((B.length/64:Nat):Int) by
   show x.blocks<=_;omega),ae]
 have⟨W1,p1,p2⟩:=ZwF (K:=K) (gens:=x.gens) (free:=x.free) (m:=(lh x).2) (v:=lj K.m) (P:=λb=>b=0\/b=1) (by rw[Ki];exact F2) (by rw[Km];show(fN x).2.next<=_;omega) AC AC h4 (λk hk=>by rw[Yq];exact(JW k hk).1) Ku (by rw[Ks];rfl)
  (λk hk=>by
   rw[Yq];have⟨_,q2,q3,q4,q5⟩:=JW k hk;unfold nk;have mT:(gC x.gens t.2.At x.free k).gen=x.gens.getD k 0:=rfl;have Kr:(gC x.gens t.2.At x.free k).live= !(t.2.At.getD k 0==0):=rfl;rw[mT,Kr,Kg,aR (show x.gens.getD k 0>=1 from q2.1),aQ q2.2,dt];by_cases h0:t.2.At.getD k 0=0
   .rw[h0]
    by_cases vr:x.gens.getD k 0=x.g
    .rw[q3 h0 vr]
     rw[show((0:Int)==0)=true from rfl];cases decide (x.gens.getD k 0<x.g)<;>rfl
    .rw[aQ (AC:x.gens.getD k 0<x.g)]
     rfl
   .rw[dM.2 h0]
    rfl) (Zvj) (λb hb=>by
   have h1:=hb.1;omega)
 rw[Yq,AT]at p1;have eG:(kI x.gens x.free (lh x).2).2.next=(fN x).2.next:=rfl;rw[eG]at p2;have⟨v1,kC⟩: ∃v1,({ lj K.m with W:=W1,ay:=(lj K.m).ay++(List.range x.gens.length).map SB } :aI)=v1:=⟨_,rfl⟩;rw[kC]at p1;have v1s:v1.ay=(List.range x.gens.length).map SB:=by rw[<-kC];rfl
 have ec:W6 K x.gens t.2.At x.free x.gens.length:=⟨Ku,h4,λk hk=>by
  have sK:=hm.range k (FC _ hk);refine⟨sK.1,sK.2,hA.dead _ λh=>?_,by rw[Kg];exact hm.low k hk⟩;rw[Ma sK.1]at h;exact(jU.1 hm.nodup).2.2 _ h _ hk rfl,(jU.1 hm.nodup).2.1⟩
 have q1:=Zw9 ec (v:=v1) (by rw[v1s,AT]) (by rw[Ks];rfl) (HO _ _ (jU.1 hm.nodup).2.1 λk hk=>hm.range k (FC _ hk)) (λj hj=>by
  rcases Classical.em (t.2.At.getD j 0=0)with h0|h0
  .right
   rcases Classical.em ((j:Int)∈x.free)with h1|h1
   .exact .inr h1
   .left
    have EK:(j:Int)∉(Zp x).map (·.slot):=λh=>(JW j hj).2.2.2.2.2 h h0
    have h2:=hm.rest j hj (λh=>(ga.1 h).elim EK h1);unfold ix at h2;rw[bn]at h2;rw[Kg];have:=(JW j hj).2.1.2;omega
  .exact .inl h0)
 have⟨v2,vz⟩: ∃v2,({ v1 with free:=v1.free++x.free } :aI)=v2:=⟨_,rfl⟩;rw[vz]at q1;have v2s:v2.ay=(List.range x.gens.length).map SB:=by rw[<-vz];exact v1s
 have LR:v2.aD=[]:=by rw[<-vz,<-kC];rfl
 have v2g:v2.gens=[]:=by rw[<-vz,<-kC];rfl
 have v2f:v2.free=x.free:=by rw[<-vz,<-kC];rfl
 have v2n:v2.nodes=0:=by rw[<-vz,<-kC];rfl
 have v2W:Mem K.m v2.W (λb=>(b=0\/b=1)\/gp (lh x).2.next (fN x).2.next b):=by rw[<-vz,<-kC];exact p2
 have lI: ∀h∈x.aD,ym K v2.ay t.2.At h.bz/\pH h.name=true/\h.bz.length<4096:=λh hh=>by
  have vw: ∀e∈h.bz,e∈Zp x:=λe he=>List.mem_flatten.2 ⟨h.bz,jK.2 ⟨h,hh,rfl⟩,he⟩
  have C1:=(hm.right h hh).2;refine⟨⟨λe he=>?_,?_,ZoA C1⟩,(hm.right h hh).1,by have:=Zs9 hm hh;omega⟩
  .have he:=vw e he
   have sK:=hm.range _ (Dy _ (jK.2 ⟨e,he,rfl⟩));have hk:e.slot.toNat<x.gens.length:=AC
   have eQ:=hA.live e he;have mT:=hm.gen e he;unfold ix at mT;have⟨_,q2,q3,q4,q5⟩:=JW _ hk;rw[mT]at q2;refine⟨sK.1,by rw[Ku];exact sK.2,AC,⟨q2.1,AC⟩,hr.k e he,hr.v e he,?_,?_⟩
   .rw[v2s,nf,Fw hk,<-AT]
    have cV:t.2.At.getD e.slot.toNat 0≠0:=AC
    show some (gC x.gens t.2.At x.free e.slot.toNat)=_;have e1:(gC x.gens t.2.At x.free e.slot.toNat).live=true:=by
     show(!(t.2.At.getD e.slot.toNat 0==0))=true;rw[dM.2 cV];rfl
    have e2:(gC x.gens t.2.At x.free e.slot.toNat).gen=e.gen:=mT;have e3:=q4 cV;generalize gC x.gens t.2.At x.free e.slot.toNat=Z at e1 e2 e3;cases Z;simp only at e1 e2 e3;rw[e1,e2,e3]
   .have:t.2.At.length=x.gens.length:=by
     rw[<-ht];refine(FY x.aD [] (jd x)).2.1.trans ?_;unfold jd;simp
    omega
  .have:=(jU.1 hm.nodup).1
   have⟨P,R,O1⟩:=List.append_of_mem hh;unfold Zp at this;rw[O1,eV,kf,Fu,vH,eV,eV]at this;exact(jU.1 (jU.1 this).2.1).1
 have hQ: ∃v3,nS K v2=some v3/\Mem K.m v3.W (λb=>b<(fN x).2.next)/\v3.aD=x.aD/\v3.ay=v2.ay/\v3.gens=[]/\v3.free=x.free/\v3.nodes=(mg x.aD:Int):=by
  by_cases hh:x.aD=[]
  .have Da:t=([],jd x):=by rw[<-ht,hh];rfl
   have fS:lh x=(0,jd x):=by rw[hd,Da];rfl
   refine⟨v2,?_,v2W.congr λb=>?_,by rw[LR,hh],rfl,v2g,v2f,by rw[v2n,hh];rfl⟩
   .unfold nS
    have:K.sup.dir=0:=by
     rw[Ks];show(((lh x).1:Nat):Int)=0;rw[fS];rfl
    rw[this];rfl
   .rw[fS]
    unfold gp;simp only;omega
  .have⟨v',new,n1,n2,n3,n4,_⟩:=VV (K:=K) (A:=t.2.At) x.aD [] (jd x) { v2 with W:=(lj K.m).W } (λb=>b=0\/b=1) (by rw[ht,Ki];exact Ft) (by rw[ht,Km];omega) AC AC (by
    rw[<-ht];exact(FY x.aD [] (jd x)).2.1.symm) lI (jU.1 hm.nodup).1 (by rw[LR];exact hm.order) (λe _=>by rw[ht]) (Zvj) (λb hb=>by have:=hb.1;omega)
   rw[ht,gR]at n1;rw[ht]at n4;have alW:=hm.En;have nz:1<=x.aD.length:=List.length_pos_iff.2 hh;have⟨sd,d1,d2,d3⟩:=ZzS (l:=new) AC AC (λk hk=>by have:=n4 k hk;omega) n3;have fS:lh x=(t.2.next,gx t.2 sd):=by rw[hd,n1,d1]
   have adr:(lh x).2.next=t.2.next+1:=by rw[fS];rfl
   have xK:fX K.img t.2.next=sd:=by
    rw[Ki];rw[fS]at F1;exact F1.put d2 AC
   have⟨t1,t2⟩:=Gw v2W (k:=t.2.next) AC AC (by
    unfold gp;omega)
   rw[xK,d3]at t1;have⟨v3,amk,a1,a2,a3,a4,a5,a6,a7,a8,a9,jB,nu⟩:=VV (K:=K) (A:=t.2.At) x.aD [] (jd x) { v2 with W:=bA K.m v2.W (t.2.next:Int) } _ (by rw[ht,Ki];exact Ft) (by rw[ht,Km];omega) AC AC (by
    rw[<-ht];exact(FY x.aD [] (jd x)).2.1.symm) lI (jU.1 hm.nodup).1 (by rw[LR];exact hm.order) (λe _=>by rw[ht]) t2 (λb hb=>by
    rw[ht]at hb;unfold gp at hb⊢;omega)
   rw[ht,gR,n1]at a1;subst a1;rw[ht]at a6;refine⟨v3,?_,a6.congr λb=>?_,by rw[a7,LR];rfl,a8,by rw[a9,v2g],by rw[jB,v2f],by rw[nu];simp only;rw[v2n];omega⟩
   .unfold nS
    have J6:K.sup.dir=(t.2.next:Int):=by
     rw[Ks];show(((lh x).1:Nat):Int)=_;rw[fS]
    rw[J6,dM.2 AC,af,t1];simp only;have a5:oD K v2.aD.length new _=some v3:=a5;rw[show v2.aD.length=0 by rw[LR];rfl]at a5;exact a5
   .unfold gp
    rw[adr];rw[adr]at l2;omega
 have⟨v3,r1,r2,r3,r4,r5,r6,r7⟩:=hQ;have Yn:vB v3=mg x.aD:=by
  unfold vB;rw[r4,v2s,<-AT];exact ZwL hm hA AC g6 h4
 refine⟨sR v3,?_,?_,by rw[<-Km];exact r2⟩
 .rw[hK,hW]
  unfold om;rw[p1];simp only;rw[q1];simp only;rw[r1];simp only;rw[Yn,r7,aR rfl]
 .have YK:(v3.ay.map (·.gen))=x.gens:=by
   rw[r4,v2s,uF];refine th λi=>?_
   rw[nf];rcases jw i x.gens.length with h|h
   .rw[Fw h,cc h]
    show some ((SB i).gen)=_;rw[<-AT];show some (x.gens.getD i 0)=_;rw[cz,cc h];rfl
   .rw[Dx (by simpa using h),Dx h]
    rfl
  show(⟨x.blocks,x.cW,x.g,v3.aD,v3.gens++v3.ay.map (·.gen),v3.free⟩:dW)=x;rw[YK,r3,r5,r6];rfl
