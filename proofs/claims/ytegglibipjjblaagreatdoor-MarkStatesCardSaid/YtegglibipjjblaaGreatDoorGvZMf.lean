/- What was put is read again: lines and blocks. No program in sight. -/
import Derived.Test.YtegglibipjjblaaGreatDoorGvZMe
import Derived.Test.YtegglibipjjblaaGreatDoorGvZMd
import Derived.Test.YtegglibipjjblaaGreatDoorGvZMc
import Derived.Test.YtegglibipjjblaaGreatDoorGvMOk2
namespace Go.Gv.F
open Go.Gv
theorem Og {k:Nat} (h:k<256):(pO (k:Int)).toNat=k:=by
 unfold pO;show((k:Int)%256).toNat%256=k;omega
theorem BD (n:Nat):ZC (ZZ n)=true:=by
 unfold ZC ZZ;rw[gm];intro x hx;rw[List.eq_of_mem_replicate hx];rfl
theorem Zx9 {b:List UInt8} (h:b.length<=56):(dX b 56).length=56:=by
 unfold dX ZZ;rw[aZ,oO];omega
theorem ZxV {k t:Int} {b:List UInt8} (h:b.length<=56):(lR k t b).length=60:=by
 unfold lR;rw[aZ,Zx9 h];rfl
theorem tN {k t:Int} {b:List UInt8} (h:b.length<=56):(fG k t b).length=64:=by
 unfold fG;rw[aZ,Zq,ZxV h]
theorem zP {k t:Nat} {b:List UInt8} (hk0:0<k) (hk:k<256) (ht:t<256) (h:b.length<=56):gH (fG k t b)=some (k,t,dX b 56):=by
 have hl:(fG k t b).length=64:=tN h;have h4:(bS (qb (lR k t b)) 4).length=4:=Zq _ _;have AM:(fG k t b).drop 4=lR k t b:=by
  unfold fG;rw[Et (by omega),mO (by omega),fu]
 have yw:(fG k t b).take 4=bS (qb (lR k t b)) 4:=by
  unfold fG;rw[ze (by omega),cF (by omega)]
 have hg: ∀j,(fG k t b).getD (4+j) 0=(lR k t b).getD j 0:=fun j=>by
  rw[bM,bM,<-AM,nR]
 have g4:(fG k t b).getD 4 0=pO k:=hg 0;have g5:(fG k t b).getD 5 0=pO t:=hg 1;have d6:((fG k t b).drop 6).take 2=[0,0]:=by
  have:(fG k t b).drop 6=(lR k t b).drop 2:=by rw[<-AM,iM]
  rw[this];rfl
 have d8:(fG k t b).drop 8=dX b 56:=by
  have:(fG k t b).drop 8=(lR k t b).drop 4:=by rw[<-AM,iM]
  rw[this];rfl
 have hr:xI (fG k t b)=true:=by
  unfold xI;rw[hl,g4,d6,AM,yw,NV];have h1:(pO (k:Int)==0)=false:=by
   rw[cg];intro e;have:=congrArg UInt8.toNat e;rw[Og hk]at this;simp at this;omega
  have hc:=OR (lR k t b);rw[h1,Bx (by omega)];simp[ZC]
 unfold gH;rw[hr,cond_true,g4,g5,d8,Og hk,Og ht]
theorem O5 (A C:List UInt8) (v n:Nat):rd (A++(bS v n++C)) A.length n=v%256^n:=by
 unfold rd;rw[pR,ze (by rw[Zq];exact aA _),cF (by rw[Zq];exact aA _),NV]
theorem Ci {l A C:List UInt8} {v n k:Nat} (hl:l=A++(bS v n++C)) (hk:A.length=k) (hv:v<256^n) (qG:v<9223372036854775808):dO l k n=(v:Int):=by
 subst hl;subst hk;unfold dO;rw[O5,Bx hv];exact Zd (by omega) (by omega)
theorem Zrc {l A C:List UInt8} {v:Int} {k:Nat} (hl:l=A++(bS (bO v) 8++C)) (hk:A.length=k) (hv: -9223372036854775808<=v/\v<=9223372036854775807):dO l k 8=v:=by
 subst hl;subst hk;unfold dO;have h8:(256:Nat)^8=18446744073709551616:=by decide
 have aj:=od v;rw[O5,Bx (by omega)];have e:af ((bO v:Nat):Int)=v:=by
  unfold bO;show IntKind.wrap .i64 _=v;rw[IntKind.wrap_i64];omega
 exact e
theorem BQ {v:Int} (h0:0<=v) (h1:v<9223372036854775808):((bO v:Nat):Int)=v:=by unfold bO;omega
theorem ZuJ (l:List Int) {i:Nat} (h:i<l.length):cU l=cU (l.take i)++(bS (bO l[i]) 2++cU (l.drop (i+1))):=by
 have e:l=l.take i++l[i]::l.drop (i+1):=by
  conv=>lhs;rw[<-nU i l,hJ h]
 conv=>lhs;rw[e]
 unfold cU;rw[dD,vb,gK,mQ]
theorem H0 {A D b:List UInt8} (l:List Int) (hl: ∀k∈l,0<=k/\k<65536) (hb:b=A++(cU l++D)) {n:Nat} (hA:A.length=n):(List.range l.length).map (fun j=>dO b (n+2*j) 2)=l:=by
 refine mP fun j=>?_
 rw[gB];by_cases hj:j<l.length
 ·rw[nS hj,ba hj]
  have hk:=hl _ (gC hj);have hs:=ZuJ l hj;generalize l[j]=k at hk hs;have s2:=BQ (v:=k) (by omega) (by omega);have e:dO b (n+2*j) 2=((bO k:Nat):Int):=by
   refine Ci (A:=A++cU (l.take j)) (C:=cU (l.drop (j+1))++D) ?_ ?_ (show bO k<65536 by omega) (by omega)
   ·rw[hb,hs,dB,dB,dB]
   ·rw[aZ,ZO,cn]
    omega
  exact congrArg some (e.trans s2)
 ·rw[dL (by rw[Eu];omega),dL (by omega)]
  rfl
theorem Ny {x:jy} (hk:x.kids.length<=12):gH (nI x)=some (1,x.kids.length,dX (qK x) 56)/\(qK x).length=24+2*x.kids.length:=by
 have hl:(qK x).length=24+2*x.kids.length:=by
  unfold qK;simp only[aZ,Zq,ZO]
 exact⟨zP (by decide) (by decide) (by omega) (by omega),hl⟩
theorem Zx8 {k:Int} (h:uP k=false):2<=k/\k<3072:=by
 unfold uP at h;rw[kJ,j6,j6]at h;omega
theorem Zwx {A B C D E Z b:List UInt8} (h:b=A++B++C++D++E++Z):b=A++(B++(C++(D++(E++Z))))/\b=(A++B)++(C++(D++(E++Z)))/\b=(A++B++C)++(D++(E++Z))/\b=(A++B++C++D)++(E++Z):=by
 subst h;simp only[dB,and_self]
theorem Zxe {x:jy} (hr:me x=true) (QA: -9223372036854775808<=x.bD.key/\x.bD.key<=9223372036854775807) (hval: -9223372036854775808<=x.bD.value/\x.bD.value<=9223372036854775807):sP (nI x)=some x:=by
 have iV:=hr;unfold me at hr;rw[aH,gZ,gZ]at hr;simp only[kJ,j6]at hr;obtain⟨⟨r1,r2,r3,r4,r5⟩,r6⟩:=hr;obtain⟨ho,hl⟩:=Ny (x:=x) (by omega);have bA:ZC ((dX (qK x) 56).drop (24+2*x.kids.length))=true:=by
  unfold dX;rw[<-hl,pR];exact BD _
 have hS:dX (qK x) 56=bS (bO x.bD.key) 8++bS (bO x.bD.value) 8++bS (bO x.bD.slot) 4++bS (bO x.bD.gen) 4++cU x.kids++ZZ (56-(qK x).length):=rfl;have l1:(bS (bO x.bD.key) 8).length=8:=Zq _ _;have l2:(bS (bO x.bD.value) 8).length=8:=Zq _ _;have l3:(bS (bO x.bD.slot) 4).length=4:=Zq _ _;have l4:(bS (bO x.bD.gen) 4).length=4:=Zq _ _;obtain⟨S1,S2,S3,S4⟩:=Zwx hS;have hb:vL (dX (qK x) 56) x.kids.length=x:=by
  generalize dX (qK x) 56=b at S1 S2 S3 S4;have k0:dO b 0 8=x.bD.key:=Zrc (A:=[]) S1 rfl QA;have k8:dO b 8 8=x.bD.value:=Zrc (A:=bS (bO x.bD.key) 8) S1 l1 hval;have s0:=BQ (v:=x.bD.slot) (by omega) (by omega);have s1:=BQ (v:=x.bD.gen) (by omega) (by omega);have k16:dO b 16 4=((bO x.bD.slot:Nat):Int):=Ci S2 (by rw[aZ];omega) (show bO x.bD.slot<4294967296 by omega) (by omega);have k20:dO b 20 4=((bO x.bD.gen:Nat):Int):=Ci S3 (by rw[aZ,aZ];omega) (show bO x.bD.gen<4294967296 by omega) (by omega);have kk:p9 b x.kids.length=x.kids:=H0 x.kids (fun k hk=>by
   have QB:uP k=false:=by
    have:=(List.any_eq_false.1 r6) k hk;simpa using this
   have:=Zx8 QB;omega) S4 (by rw[aZ,aZ,aZ];omega)
  unfold vL;rw[k0,k8,k16,k20,kk,s0,s1]
 unfold sP;rw[ho];simp only;rw[hb,iV,bA,ah (show x.kids.length<=12 by omega)];simp
theorem H4 {l:List UInt8} {k t:Nat} {b:List UInt8} (h:gH l=some (k,t,b)) (hk:k≠1):sP l=none:=by
 unfold sP;rw[h];simp only;rw[ao hk];rfl
theorem Mk {l:List UInt8} {k t:Nat} {b:List UInt8} (h:gH l=some (k,t,b)) (hk:k≠2):pY l=none:=by
 unfold pY;rw[h];simp only;rw[ao hk];rfl
theorem Zm8 {l:List UInt8} {k t:Nat} {b:List UInt8} (h:gH l=some (k,t,b)) (hk:k≠3):sE l=none:=by
 unfold sE;rw[h];simp only;rw[ao hk];rfl
theorem Zsb {l:List UInt8} {k t:Nat} {b:List UInt8} (h:gH l=some (k,t,b)) (hk:k≠5):rf l=none:=by
 unfold rf;rw[h];simp only;rw[ao hk];rfl
theorem OM: ∀(l:List bF) (k:Nat),eQ k l=2^k*eQ 0 l
 |[],k=>by simp[eQ]
 |x::r,k=>by
  rw[eQ,eQ,OM r (k+1),OM r 1,mS];cases x.live with
  |true=>rw[cond_true,cond_true,Nat.mul_add,zh,dx,Nat.mul_assoc]
  |false=>rw[cond_false,cond_false,dy,dy,Nat.mul_assoc]
theorem ZsO (x:bF) (r:List bF):eQ 0 (x::r)=(bif x.live then 1 else 0)+2*eQ 0 r:=by
 rw[eQ,OM r 1]
theorem ZvL: ∀(l:List bF) (j:Nat) (x:bF),l[j]? =some x->dG (eQ 0 l) j=x.live
 |[],j,x,h=>by simp at h
 |y::r,0,x,h=>by
  simp only[gJ,cQ]at h;subst h;rw[ZsO];unfold dG;rw[zh,Nat.div_one];cases y.live with
  |true=>rw[cond_true,ah (by omega)]
  |false=>rw[cond_false,ao (by omega)]
 |y::r,j+1,x,h=>by
  rw[ZsO,<-ZvL r j x (by simpa using h)];unfold dG;rw[Nat.pow_succ',<-KA];have:((bif y.live then 1 else 0)+2*eQ 0 r)/2=eQ 0 r:=by
   cases y.live with
   |true=>rw[cond_true];omega
   |false=>rw[cond_false];omega
  rw[this]
theorem ZtL (l:List bF) {i:Nat} (h:i<l.length):ZS l=ZS (l.take i)++(bS (bO l[i].gen) 4++(bS (bO l[i].block) 4++ZS (l.drop (i+1)))):=by
 have e:l=l.take i++l[i]::l.drop (i+1):=by
  conv=>lhs;rw[<-nU i l,hJ h]
 conv=>lhs;rw[e]
 rw[MT,ZS,dB]
theorem Zyf {l:List bF} (hl:l.length=7) (hr: ∀x∈l,0<=x.gen/\x.gen<4294967296/\0<=x.block/\x.block<4294967296) {b:List UInt8} (hb:b=ZS l):kd b (eQ 0 l) 7=l:=by
 unfold kd;refine mP fun j=>?_
 rw[gB];by_cases hj:j<7
 ·have qD:j<l.length:=by omega
  rw[nS hj,ba qD];have ht:=ZvL l j l[j] (ba qD);have hs:=ZtL l qD;obtain⟨g0,g1,b0,b1⟩:=hr _ (gC qD);generalize l[j]=x at ht hs g0 g1 b0 b1;have s1:=BQ (v:=x.gen) (by omega) (by omega);have s2:=BQ (v:=x.block) (by omega) (by omega);have jX:(ZS (l.take j)).length=8*j:=by rw[BO,cn];omega
  have e1:dO b (8*j) 4=((bO x.gen:Nat):Int):=Ci (hb.trans hs) jX (show bO x.gen<4294967296 by omega) (by omega);have e2:dO b (8*j+4) 4=((bO x.block:Nat):Int):=Ci (A:=ZS (l.take j)++bS (bO x.gen) 4) (C:=ZS (l.drop (j+1))) (by rw[hb,hs,dB]) (by rw[aZ,Zq,jX]) (show bO x.block<4294967296 by omega) (by omega);refine congrArg some ?_;unfold tX;rw[ht,e1,e2,s1,s2]
 ·rw[dL (by rw[Eu];omega),dL (by omega)]
  rfl
theorem Znx {x:bF} (h:nK x=true):ZL x=true/\0<=x.gen/\x.gen<4294967296/\0<=x.block/\x.block<4294967296:=by
 unfold nK at h;rw[aH,gZ,kJ,j6,j6]at h;obtain⟨⟨h1,h2⟩,h3⟩:=h;unfold ZL ke;cases hl:x.live with
 |true=>
  rw[hl,cond_true,aH,bx]at h3;obtain⟨h4,h5⟩:=h3;unfold lI at h5;rw[aH,bx,bx]at h5;refine⟨?_,by omega,by omega,by omega,by omega⟩;rw[cond_true,ah (show x.gen>=1 by omega),ah (show x.block>=2 by omega),cond_true,cond_true,ah (show x.gen<=4294967295 by omega),ah (show x.block<=3071 by omega)];rfl
 |false=>
  rw[hl,cond_false,aH,aH,bx,bx]at h3;obtain⟨⟨h4,h5⟩,h6⟩:=h3;refine⟨?_,by omega,by omega,by omega,by omega⟩;rw[cond_false,ah (show x.gen>=0 by omega),ah (show x.block>=0 by omega),cond_true,cond_true,ah (show x.gen<=4294967295 by omega),ah (show x.block<=1792 by omega),cI,cI];cases hb:(x.block==0)with
  |true=>rw[Bool.or_true]
  |false=>
   rw[hb,yY,gZ,cg]at h6;rw[ah (show x.gen>0 by omega)];rfl
theorem ZsH {l:List bF} (hl:l.length=7) (hr:l.all nK=true): ∃s,og l=some s/\s.length=64/\ZG s= .leaf l:=by
 have Dw: ∀x∈l,nK x=true:=fun x hx=>gm.1 hr x hx
 have cL:(ZS l).length=56:=by rw[BO,hl]
 have pG:=N3 0 l;rw[hl]at pG;have h7:2^(0+7)=128:=by decide
 have ho:gH (fG 2 (eQ 0 l:Nat) (ZS l))=some (2,eQ 0 l,dX (ZS l) 56):=zP (k:=2) (by decide) (by decide) (by omega) (by omega);have hf:dX (ZS l) 56=ZS l:=by
  unfold dX ZZ;rw[cL,pV];exact dZ _
 rw[hf]at ho;have kZ:=Zyf hl (fun x hx=>(Znx (Dw x hx)).2) rfl;refine⟨_,by unfold og;rw[hr,cond_true],tN (by omega),?_⟩;have hg:pY (fG 2 (eQ 0 l:Nat) (ZS l))=some l:=by
  unfold pY;rw[ho];simp only;rw[kZ,ah (show eQ 0 l<128 by omega)];have:l.all ZL=true:=gm.2 fun x hx=>(Znx (Dw x hx)).1
  rw[this];simp
 unfold ZG;rw[H4 ho (by decide),hg]
end Go.Gv.F
namespace Go.Gv.F
open Go.Gv
theorem ZuL {x:jy} (hr:me x=true) (QA: -9223372036854775808<=x.bD.key/\x.bD.key<=9223372036854775807) (hval: -9223372036854775808<=x.bD.value/\x.bD.value<=9223372036854775807):ZG (nI x)= .node x/\(nI x).length=64:=by
 have hk:x.kids.length<=12:=by
  unfold me at hr;rw[aH,gZ,gZ]at hr;simp only[kJ,j6]at hr;omega
 refine⟨?_,tN (by have:=(Ny hk).2;omega)⟩;unfold ZG;rw[Zxe hr QA hval]
theorem Ztf {l:List Int} (hl:l.length=16) (hr: ∀k∈l,k=0\/2<=k/\k<3072): ∃s,kb l=some s/\s.length=64/\ZG s= .cA l:=by
 have il:(cU l).length=32:=by rw[ZO,hl]
 have bW:(l.all fun k=>k==0||lI k)=true:=gm.2 fun k hk=>by
  rcases hr k hk with rfl|h
  ·rfl
  ·unfold lI
   rw[ah (show k>=2 by omega),ah (show k<=3071 by omega),Bool.and_self,Bool.or_true]
 have hrf:zT l=true:=gm.2 fun k hk=>by
  rcases hr k hk with rfl|h
  ·rfl
  ·unfold ke
   rw[ah (show k>=2 by omega),ah (show k<=3071 by omega)];exact Bool.or_true _
 have ho:gH (fG 3 ((0:Nat):Int) (cU l))=some (3,0,dX (cU l) 56):=zP (k:=3) (t:=0) (by decide) (by decide) (by decide) (by omega);have kZ:gp (dX (cU l) 56) 16=l:=by
  have:=H0 (A:=[]) (D:=ZZ (56-(cU l).length)) (b:=dX (cU l) 56) l (fun k hk=>by have:=hr k hk;omega) rfl rfl;rw[hl]at this;unfold gp;simpa using this
 have bA:ZC ((dX (cU l) 56).drop 32)=true:=by
  unfold dX;rw[<-il,pR];exact BD _
 refine⟨_,by unfold kb;rw[bW,cond_true],tN (by omega),?_⟩;have hg:sE (fG 3 0 (cU l))=some l:=by
  unfold sE;rw[show(0:Int)=((0:Nat):Int)from rfl,ho];simp only;rw[kZ,bA,hrf];rfl
 have ho:gH (fG 3 0 (cU l))=some (3,0,dX (cU l) 56):=ho;unfold ZG;rw[H4 ho (by decide),Mk ho (by decide),hg]
theorem ZwY {x:oV} (hl:x.cS.length=12) (hm:x.mask<4096) (hn:mg x.name=true) (wA:x.name.length<=24) (hh: ∀i,i<12->qu x.mask i (x.cS.getD i 0)=true) (hr: ∀k∈x.cS,0<=k/\k<3072):(oF x).length=64/\ZG (oF x)= .queue x:=by
 obtain⟨nm,mask,cS⟩:=x;simp only at hl hm hn wA hh hr;have il:(cU cS).length=24:=by rw[ZO,hl]
 have hS:(bS (bO mask) 4++cU cS++nm).length=28+nm.length:=by
  rw[aZ,aZ,Zq,il]
 have hu:bO ((mask:Nat):Int)=mask:=Zzw (by omega);have ho:gH (fG 5 nm.length (bS (bO mask) 4++cU cS++nm))=some (5,nm.length,dX (bS (bO mask) 4++cU cS++nm) 56):=zP (k:=5) (by decide) (by decide) (by omega) (by omega);have hb:dX (bS (bO mask) 4++cU cS++nm) 56=bS (bO mask) 4++(cU cS++(nm++ZZ (56-(28+nm.length)))):=by
  unfold dX;rw[hS];simp only[dB]
 obtain⟨b,ry⟩: ∃b,dX (bS (bO mask) 4++cU cS++nm) 56=b:=⟨_,rfl⟩;rw[ry]at ho hb;have hq:vE b nm.length=⟨nm,mask,cS⟩:=by
  have h1:rd b 0 4=mask:=by
   have:=O5 [] (cU cS++(nm++ZZ (56-(28+nm.length)))) (bO mask) 4;rw[fu,<-hb]at this;rw[hu]at this;rw[show([]:List UInt8).length=0 from rfl]at this;rw[this,Bx (show mask<4294967296 by omega)]
  have h2:kR b 12=cS:=by
   have:=H0 (A:=bS (bO mask) 4) (D:=nm++ZZ (56-(28+nm.length))) (b:=b) cS (fun k hk=>by have:=hr k hk;omega) hb (Zq _ _);rw[hl]at this;exact this
  have h3:(b.drop 28).take nm.length=nm:=by
   rw[hb,<-dB,List.drop_left' (by rw[aZ,Zq,il]),vg]
  unfold vE;rw[h1,h2,h3]
 have bA:ZC (b.drop (28+nm.length))=true:=by
  rw[<-ry];unfold dX;rw[<-hS,pR];exact BD _
 have JM:vJ ⟨nm,mask,cS⟩=true:=by
  unfold vJ;rw[hn,ah hm,cI,cI];exact gm.2 fun i hi=>hh i (jd.1 hi)
 refine⟨tN (by show(bS (bO mask) 4++cU cS++nm).length<=56;omega),?_⟩;have hg:rf (oF ⟨nm,mask,cS⟩)=some ⟨nm,mask,cS⟩:=by
  unfold rf oF;rw[ho];simp only;rw[hq,bA,JM,ah wA];rfl
 have dq:gH (oF ⟨nm,mask,cS⟩)=some (5,nm.length,b):=ho;unfold ZG;rw[H4 dq (by decide),Mk dq (by decide),Zm8 dq (by decide),hg]
theorem Zoi {l:List Int} (h:l.Nodup) {i:Nat} (hi:i<l.length):l.getD i 0∉l.take i:=by
 rw[bM,ba hi];intro hm;obtain⟨j,hj,e⟩:=Br hm;rw[cn]at hj;rw[List.getElem_take]at e;have:=(List.getElem_inj (xs:=l) h (h₀:=by omega) (h₁:=hi)).1 e;omega
theorem ZyT {l:List Int} (h1:1<=l.length) (nk:l.length<=16) (hr: ∀k∈l,2<=k/\k<3072) (cT:l.Nodup): ∃s,p8 l=some s/\s.length=64/\ZG s= .dir l:=by
 have il:=ZO l;have Jl: ∀i,i<l.length->2<=l.getD i 0/\l.getD i 0<3072:=fun i hi=>by
  rw[bM,ba hi];exact hr _ (gC hi)
 have hdo: ∀i,i<=l.length->qd l i=true:=by
  intro i;induction i with
  |zero=>intro _;rfl
  |succ i ih=>
   intro hi;have h2:=Jl i (by omega);unfold qd lI;rw[ih (by omega),ah (show l.getD i 0>=2 by omega),ah (show l.getD i 0<=3071 by omega),ao (Zoi cT (show i<l.length by omega))];rfl
 have kZ:zQ l=true:=by
  unfold zQ;rw[ah h1,ah nk,cI,cI];refine gm.2 fun i hi=>?_
  have hi:=jd.1 hi;have h2:=Jl i hi;unfold ra;rw[ah (show l.getD i 0>=2 by omega),ah (show l.getD i 0<3072 by omega),ao (Zoi cT hi)];rfl
 have ho:gH (fG 6 l.length (cU l))=some (6,l.length,dX (cU l) 56):=zP (k:=6) (by decide) (by decide) (by omega) (by omega);have sW:gp (dX (cU l) 56) l.length=l:=by
  have:=H0 (A:=[]) (D:=ZZ (56-(cU l).length)) (b:=dX (cU l) 56) l (fun k hk=>by have:=hr k hk;omega) rfl rfl;unfold gp;simpa using this
 have bA:ZC ((dX (cU l) 56).drop (2*l.length))=true:=by
  unfold dX;rw[<-il,pR];exact BD _
 refine⟨_,by unfold p8;rw[ah h1,ah nk,hdo _ (aA _)];rfl,tN (by omega),?_⟩;have hg:Ag (fG 6 l.length (cU l))=some l:=by
  unfold Ag;rw[ho];simp only;rw[sW,bA,kZ,ah nk];rfl
 unfold ZG;rw[H4 ho (by decide),Mk ho (by decide),Zm8 ho (by decide),Zsb ho (by decide),hg]
theorem ZoY {c:ZJ} (h1:c.no<8) (h2:c.cO.length=48):(su c).length=64/\zS (su c)=some c:=by
 have ho:gH (su c)=some (4,c.no,dX c.cO 56):=zP (k:=4) (by decide) (by decide) (by omega) (by omega);refine⟨tN (by omega),?_⟩;have bA:ZC ((dX c.cO 56).drop 48)=true:=by
  unfold dX;rw[<-h2,pR];exact BD _
 have ht:(dX c.cO 56).take 48=c.cO:=by
  unfold dX;rw[<-h2,vg]
 unfold zS;rw[ho];simp only;rw[bA,ht,ah h1];rfl
end Go.Gv.F
namespace Go.Gv.F
open Go.Gv
def gU (l:List UInt8) (k:Nat):List UInt8:=(l.drop (64*k)).take 64
structure Ex (m m':bd):Prop where
 len:m'.B.length=m.B.length
 le:m.next<=m'.next
 line: ∀k,k<m.next->gU m'.B k=gU m.B k
theorem Ex.refl (m:bd):Ex m m:=⟨rfl,aA _,fun _ _=>rfl⟩
theorem Ex.trans {a b c:bd} (h:Ex a b) (k:Ex b c):Ex a c:=⟨k.len.trans h.len,eZ h.le k.le,fun j hj=>(k.line j (j5 hj h.le)).trans (h.line j hj)⟩
theorem Ex.at {m m':bd} (h:Ex m m') (l:List Int):Ex m { m' with At:=l } :=⟨h.len,h.le,h.line⟩
theorem ZwG {B s:List UInt8} {n k:Nat} (hn:64*n<=B.length) (hk:k<n):gU (mH B (64*n) s) k=gU B k:=by
 unfold gU mH;rw[Et (by rw[cn];omega),ze (by rw[ej,cn];omega),List.drop_take,Bu,jK (by omega)]
theorem ZAo {B s:List UInt8} {n:Nat} (hn:64*n+64<=B.length) (hs:s.length=64):gU (mH B (64*n) s) n=s:=by
 unfold gU mH;have hl:(B.take (64*n)).length=64*n:=by rw[cn];omega
 rw[List.drop_append,hl,pV,mO (by omega),fu,dw,cF (l:=s) (by omega),ze (by omega),cF (by omega)]
theorem Zwp {B s:List UInt8} {n k:Nat} (hn:64*n+64<=B.length) (hs:s.length=64) (hk:n<k):gU (mH B (64*n) s) k=gU B k:=by
 unfold gU mH;have hl:(B.take (64*n)).length=64*n:=by rw[cn];omega
 have jG:(s.take (B.length-64*n)).length=64:=by rw[cn];omega
 rw[List.drop_append,hl,mO (by omega),fu,List.drop_append,jG,mO (by omega),fu,iM,hs];rw[show 64*n+64+(64*k-64*n-64)=64*k by omega]
theorem Ex.put (m:bd) (s:List UInt8):Ex m (eD m s):=by
 refine⟨oT m s,Nat.le_succ _,fun k hk=>?_⟩;unfold eD;by_cases h:64*m.next+64<=m.B.length
 ·simp only[ah h,cond_true]
  exact ZwG (by omega) hk
 ·simp only[ao h,cond_false]
theorem Zy2 {m:bd} {s:List UInt8} (h:64*m.next+64<=m.B.length) (hs:s.length=64):gU (eD m s).B m.next=s:=by
 unfold eD;simp only[ah h,cond_true];exact ZAo h hs
theorem Ex.fin (es:List bc) (r:List Int×bd):Ex r.2 (jT es r).2:=by
 unfold jT;cases es with
 |nil=>exact .refl _
 |cons e t=>exact(Ex.put r.2 _).at _
theorem Ex.kids: ∀(j:Nat) (es:List bc) (m:bd),Ex m (bI j es m).2
 |0,_,m=> .refl m
 |j+1,es,m=>((Ex.kids j es m).trans (Ex.kids j _ _)).trans (Ex.fin _ _)
theorem Ex.tree (j:Nat) (es:List bc) (m:bd):Ex m (eO j es m).2:=(Ex.kids j es m).trans (Ex.fin _ _)
theorem Ex.dc (cnt:Nat): ∀(c k:Nat) (hs:List Int) (rest:List bc) (m:bd),Ex m (dc cnt c k hs rest m).2
 |0,_,_,_,m=> .refl m
 |c+1,k,hs,rest,m=>by
  unfold F.dc;cases dG cnt k with
  |true=>exact(Ex.tree k _ m).trans (Ex.dc cnt c _ _ _ _)
  |false=>exact Ex.dc cnt c _ _ _ _
theorem Ex.eG: ∀(l:List cJ) (cX:List Int) (m:bd),Ex m (eG l cX m).2
 |[],_,m=> .refl m
 |_x::r,X8,m=>((Ex.dc _ _ _ _ _ m).trans (Ex.put _ _)).trans (Ex.eG r _ _)
theorem Ex.ml (l:List cJ) (m:bd):Ex m (ml l m).2:=by
 unfold F.ml;have:=Ex.eG l [] m;generalize F.eG l [] m=t at this;simp only;cases p8 t.1 with
 |none=>exact this
 |some s=>exact this.trans (Ex.put _ _)
theorem Ex.fg (gens free:List Int): ∀(c f:Nat) (ls:List Int) (m:bd),Ex m (fg gens free c f ls m).2
 |0,_,_,m=> .refl m
 |c+1,f,ls,m=>by
  unfold F.fg;cases decide (f<gens.length)with
  |true=>exact(Ex.put m _).trans (Ex.fg gens free c _ _ _)
  |false=>exact .refl m
theorem Ex.fW (leaves:List Int): ∀(c i:Nat) (top:List Int) (m:bd),Ex m (fW leaves c i top m).2
 |0,_,_,m=> .refl m
 |c+1,i,top,m=>by
  unfold F.fW;cases decide (16*i<leaves.length)with
  |true=>exact(Ex.put m _).trans (Ex.fW leaves c _ _ _)
  |false=>exact .refl m
theorem Ex.gX (gens free:List Int) (m:bd):Ex m (gX gens free m).2:=by
 unfold F.gX;have:=Ex.fg gens free gens.length 0 [] m;generalize F.fg gens free gens.length 0 [] m=t at this;simp only;cases Nat.beq t.1.length 0 with
 |true=>exact this
 |false=>exact(this.trans (Ex.fW _ _ _ _ _)).trans (Ex.put _ _)
theorem Ex.jf (used:List Int): ∀(c i:Nat) (m:bd),Ex m (jf used c i m)
 |0,_,m=> .refl m
 |c+1,_i,m=>(Ex.put m _).trans (Ex.jf used c _ _)
theorem Ex.all (x:cK):Ex (fP x) (F.jf (jJ x) (jb x) 0 (cV x).2):=((Ex.ml x.av (fP x)).trans (Ex.gX x.gens x.free (iw x).2)).trans (Ex.jf _ _ _ _)
end Go.Gv.F
namespace Go.Gv.F
open Go.Gv
theorem ZwA {x:eX} (h:vq x):x.aG.length<=8:=by
 have hl:=h.len;have hg:=h.g;obtain⟨g1,g2,_⟩:=sr hg;unfold tS at hl;rw[hg,cond_true]at hl;unfold nM at hl;have e1:af (x.blocks+384)=x.blocks+384:=by
  obtain⟨m,hm⟩: ∃m:Nat,x.blocks=m:=⟨x.blocks.toNat,by omega⟩;rw[hm];exact Zd (by omega) (by omega)
 have e2:af (x.blocks+384-1)=x.blocks+384-1:=by
  obtain⟨m,hm⟩: ∃m:Nat,x.blocks=m:=⟨x.blocks.toNat,by omega⟩;rw[hm,show((m:Int)+384-1)=((m+383:Nat):Int) by omega];exact Zd (by omega) (by omega)
 rw[e1,e2,Int.tdiv_eq_ediv_of_nonneg (by omega)]at hl;have e3:af ((x.blocks+384-1)/384)=(x.blocks+384-1)/384:=by
  obtain⟨m,hm⟩: ∃m:Nat,(x.blocks+384-1)/384=m:=⟨((x.blocks+384-1)/384).toNat,by omega⟩;rw[hm];exact Zd (by omega) (by omega)
 rw[e3]at hl;omega
theorem Zyu (x:eX):(Kq x).length=32+2*x.aG.length:=by
 unfold Kq;simp only[aZ,Zq,ZO]
theorem Zwg {x:eX} (h:vq x):(vF x).length=64:=by
 have h1:=ZwA h;have h2:=Zyu x;exact tN (by omega)
end Go.Gv.F
namespace Go.Gv.F
open Go.Gv
structure Fin (B:List UInt8) (m:bd):Prop where
 room:64*m.next<=m.B.length
 line: ∀k,2<=k->k<m.next->gU B k=gU m.B k
theorem Fin.back {B:List UInt8} {m m':bd} (h:Fin B m') (e:Ex m m'):Fin B m:=
 ⟨by have:=h.room;have:=e.le;have:=e.len;omega,fun k h1 h2=>(h.line k h1 (j5 h2 e.le)).trans (e.line k h2)⟩
theorem Fin.put {B:List UInt8} {m:bd} {s:List UInt8} (h:Fin B (eD m s)) (hs:s.length=64) (h1:2<=m.next):gU B m.next=s:=by
 have hn:(eD m s).next=m.next+1:=rfl;have h2:=h.room;rw[oT,hn]at h2;rw[h.line m.next h1 (by omega)];exact Zy2 (by omega) hs
structure Mem (m:Nat) (W:List Nat) (P:Nat->Prop):Prop where
 len:W.length=(m+63)/64
 lt: ∀w∈W,w<18446744073709551616
 iff: ∀b,dI W b=true↔P b
theorem Ui (img:List UInt8) (k:Nat):mc img k=gU img k:=by unfold mc gU;rw[qU]
theorem z6 {K:bz} {v:aU} {P:Nat->Prop} {k:Nat} (h:Mem K.m v.W P) (h2:2<=k) (hk:k<K.m) (hn: ¬P k):
  c8 K (k:Int) v=some (ZG (gU K.img k), { v with W:=c9 K.m v.W k })/\Mem K.m (c9 K.m v.W k) (fun b=>P b\/b=k):=by
 have hm:gV K.m (k:Int)=true:=by
  unfold gV;rw[ah (show(0:Int)<=k by omega),ah (show(k:Int)<K.m by omega)];rfl
 have hi:dI v.W k=false:=by
  cases hw:dI v.W k with
  |false=>rfl
  |true=>exact absurd ((h.iff k).1 hw) hn
 refine⟨?_,by rw[sv];exact h.len,zW h.lt,fun b=>?_⟩
 ·unfold c8 pj
  rw[hm,aY,hi,ah (show(k:Int)>=2 by omega),Ui];rfl
 ·rw[vD h.len,hm,aY,jt,h.iff b,cI,bx]
theorem Mem.congr {m:Nat} {W:List Nat} {P Q:Nat->Prop} (h:Mem m W P) (e: ∀b,P b↔Q b):Mem m W Q:=⟨h.len,h.lt,fun b=>(h.iff b).trans (e b)⟩
structure EOk (K:bz) (ax:List bF) (A:List Int) (e:bc):Prop where
 s0:0<=e.slot
 s1:e.slot<K.sup.used
 s2:e.slot<1792
 g:1<=e.gen/\e.gen<=4294967295
 k: -9223372036854775808<=e.key/\e.key<=9223372036854775807
 v: -9223372036854775808<=e.value/\e.value<=9223372036854775807
 XJ:ax[e.slot.toNat]? =some ⟨true,e.gen,A.getD e.slot.toNat 0⟩
 len:e.slot.toNat<A.length
structure sj (K:bz) (ax:List bF) (A:List Int) (es:List bc):Prop where
 aK: ∀e∈es,EOk K ax A e
 nd:(es.map (·.slot)).Nodup
 ord:es.Pairwise fun a b=>hY a b=true
theorem sj.sub {K:bz} {ax:List bF} {A:List Int} {es gE:List bc} (h:sj K ax A es) (k:gE.Sublist es):sj K ax A gE:=
 ⟨fun e he=>h.aK e (k.subset he),h.nd.sublist (k.map _),h.ord.sublist k⟩
structure vm (v v':aU) (n:Nat):Prop where
 ax:v'.ax=v.ax
 av:v'.av=v.av
 gens:v'.gens=v.gens
 free:v'.free=v.free
 nodes:v'.nodes=v.nodes+(n:Int)
theorem vm.trans {a b c:aU} {m n:Nat} (h:vm a b m) (k:vm b c n):vm a c (m+n):=
 ⟨k.ax.trans h.ax,k.av.trans h.av,k.gens.trans h.gens,k.free.trans h.free,by rw[k.nodes,h.nodes];omega⟩
def eu (a b k:Nat):Prop:=a<=k/\k<b
theorem ZvX {es:List bc} {r:List Int×bd} {s:Nat} (h: ∀e∈es,e.slot.toNat≠s):(jT es r).2.At.getD s 0=r.2.At.getD s 0:=by
 unfold jT;cases es with
 |nil=>rfl
 |cons e t=>
  show(r.2.At.set e.slot.toNat (r.2.next:Int)).getD s 0=_;rw[bM,ec (h e nT),<-bM]
theorem NQ: ∀(j:Nat) (es:List bc) (m:bd) (s:Nat),(∀e∈es,e.slot.toNat≠s)->(bI j es m).2.At.getD s 0=m.At.getD s 0
 |0,_,_,_,_=>rfl
 |j+1,es,m,s,h=>by
  have h2: ∀e∈(es.drop (2^j)).take (2^j),e.slot.toNat≠s:=fun e he=>h e (r9 (sa he))
  show(jT _ (bI j _ (bI j es m).2)).2.At.getD s 0=_;rw[ZvX h2,NQ j _ _ s h2,NQ j es m s h]
theorem N6 (j:Nat) (es:List bc) (m:bd) (s:Nat) (h: ∀e∈es,e.slot.toNat≠s):(eO j es m).2.At.getD s 0=m.At.getD s 0:=(ZvX h).trans (NQ j es m s h)
theorem Zs9: ∀(j:Nat) (es:List bc) (m:bd),2^j<=es.length->∀x∈(bI j es m).1,(m.next:Int)<=x/\x<(bI j es m).2.next
 |0,_,_,_,_,h=>by cases h
 |j+1,es,m,hl,x,h=>by
  have e2:2^(j+1)=2*2^j:=by rw[mS];omega
  have hp:=mT j;obtain⟨e,t,het⟩: ∃e t,(es.drop (2^j)).take (2^j)=e::t:=by
   cases hc:(es.drop (2^j)).take (2^j)with
   |nil=>
    have:=congrArg List.length hc;rw[cn,ej]at this;simp at this;omega
   |cons e t=>exact⟨e,t,rfl⟩
  have hk:bI (j+1) es m=((bI j es m).1++[((jT (e::t) (bI j (e::t) (bI j es m).2)).1:Int)],(jT (e::t) (bI j (e::t) (bI j es m).2)).2):=by
   rw[<-het];rfl
  rw[hk]at h⊢;have l1:=(Ex.kids j es m).le;have l2:=(Ex.kids j (e::t) (bI j es m).2).le;have l3:(jT (e::t) (bI j (e::t) (bI j es m).2)).2.next=(bI j (e::t) (bI j es m).2).2.next+1:=rfl;have l4:(jT (e::t) (bI j (e::t) (bI j es m).2)).1=(bI j (e::t) (bI j es m).2).2.next:=rfl;simp only at h⊢;rw[l3];rcases de.1 h with h|h
  ·have:=Zs9 j es m (by omega) x h
   omega
  ·rw[bP.1 h,l4]
   omega
theorem Zye (e:bc) (l:List Int) (r:Int):lg ⟨e,l++[r]⟩ (l.length+1)=⟨r,l.length,e,false⟩::lg ⟨e,l⟩ l.length:=by
 rw[HM];have h1:(l++[r]).getD l.length 0=r:=by
  rw[bM,gN (aA _),pV];rfl
 have h2: ∀n,n<=l.length->lg ⟨e,l++[r]⟩ n=lg ⟨e,l⟩ n:=by
  intro n;induction n with
  |zero=>intro _;rfl
  |succ n ih=>
   intro hn;rw[HM,HM,ih (by omega)];have:(l++[r]).getD n 0=l.getD n 0:=by
    rw[bM,iN (by omega),<-bM]
   simp only[this]
 rw[h2 _ (aA _)];simp only[h1]
theorem Zxb {K:bz} {v:aU} {P:Nat->Prop} {A:List Int} {e:bc} {kids:List Int} {k j:Nat} {par:bc} {top:Bool} (f:Nat) (out:List bc) (rest:List l9)
  (hM:Mem K.m v.W P) (h2:2<=k) (hk:k<K.m) (hn: ¬P k) (hl:gU K.img k=nI ⟨e,kids⟩) (he:EOk K v.ax A e) (hA:A.getD e.slot.toNat 0=(k:Int)) (iT:kids.length=j) (hj:j<=12)
  (yf: ∀x∈kids,2<=x/\x<3072) (ht:top=true\/hY par e=true):
  ∃v',kN K (f+1) out (⟨(k:Int),(j:Int),par,top⟩::rest) v=kN K f (out++[e]) (lg ⟨e,kids⟩ j++rest) v'/\Mem K.m v'.W (fun b=>P b\/b=k)/\vm v v' 1:=by
 obtain⟨t1,t2⟩:=z6 hM h2 hk hn;have hr:me ⟨e,kids⟩=true:=by
  unfold me;have Vv:kids.any uP=false:=by
   rw[List.any_eq_false];intro x hx;have:=yf x hx;unfold uP;rw[ao (show ¬x<2 by omega),ao (show ¬x>=3072 by omega)];decide
  have:=he.s0;have:=he.s2;have:=he.g;simp only;rw[Vv,ao (show ¬e.slot<0 by omega),ao (show ¬e.slot>=1792 by omega),ao (show ¬e.gen<1 by omega),ao (show ¬e.gen>4294967295 by omega),ao (show ¬(kids.length:Int)>12 by omega)];rfl
 have hb:=(ZuL hr he.k he.v).1;rw[hl,hb]at t1;refine⟨{ v with W:=c9 K.m v.W k,nodes:=v.nodes+1 },?_,t2,⟨rfl,rfl,rfl,rfl,rfl⟩⟩;have uv:vy K { v with W:=c9 K.m v.W k } ⟨(k:Int),(j:Int),par,top⟩ ⟨e,kids⟩=true:=by
  unfold vy Aa;simp only;rw[iT,show(((j:Nat):Int)==(j:Int))=true from fH _,cond_true,ah he.s1,cond_true,he.XJ,hA];have:(bif top then true else hY par e)=true:=by
   rcases ht with rfl|h
   ·rfl
   ·rw[h];cases top<;>rfl
  rw[this];simp
 conv=>lhs;unfold kN
 simp only;rw[t1];simp only;rw[uv,cond_true,iT]
section
variable (K:bz) (A:List Int)
def KW (j:Nat):Prop:=∀(es:List bc) (m:bd) (par:bc) (f:Nat) (out:List bc) (rest:List l9) (v:aU) (P:Nat->Prop),j<=12->2^j<=es.length->Fin K.img (bI j es m).2->(bI j es m).2.next<=K.m->K.m<=3072->2<=m.next->m.At.length=A.length->
 sj K v.ax A es->(∀i e,1<=i->es[i]? =some e->hY par e=true)->(∀i e,1<=i->i<2^j->es[i]? =some e->A.getD e.slot.toNat 0=(bI j es m).2.At.getD e.slot.toNat 0)->
 Mem K.m v.W P->(∀b,eu m.next (bI j es m).2.next b->¬P b)->
 ∃gE v',kN K (f+(2^j-1)) out (lg ⟨par,(bI j es m).1⟩ j++rest) v=kN K f (out++gE) rest v'/\gE.Perm ((es.take (2^j)).drop 1)/\Mem K.m v'.W (fun b=>P b\/eu m.next (bI j es m).2.next b)/\vm v v' (2^j-1)/\(bI j es m).2.next=m.next+(2^j-1)
def TW (j:Nat):Prop:=∀(es:List bc) (m:bd) (par:bc) (top:Bool) (f:Nat) (out:List bc) (rest:List l9) (v:aU) (P:Nat->Prop),j<=12->2^j<=es.length->Fin K.img (eO j es m).2->(eO j es m).2.next<=K.m->K.m<=3072->2<=m.next->m.At.length=A.length->
 sj K v.ax A es->(top=true\/∀e,es[0]? =some e->hY par e=true)->(∀i e,i<2^j->es[i]? =some e->A.getD e.slot.toNat 0=(eO j es m).2.At.getD e.slot.toNat 0)->
 Mem K.m v.W P->(∀b,eu m.next (eO j es m).2.next b->¬P b)->
 ∃gE v',kN K (f+2^j) out (⟨((eO j es m).1:Int),j,par,top⟩::rest) v=kN K f (out++gE) rest v'/\gE.Perm (es.take (2^j))/\Mem K.m v'.W (fun b=>P b\/eu m.next (eO j es m).2.next b)/\vm v v' (2^j)/\(eO j es m).2.next=m.next+2^j/\2<=((eO j es m).1:Int)/\((eO j es m).1:Int)<3072
end
theorem ZsK {K:bz} {A:List Int} {j:Nat} (h:KW K A j):TW K A j:=by
 intro es m par top f out rest v P hj hl hF mA hK hn fK hW ht hA hM hP;obtain⟨e,t,rfl⟩: ∃e t,es=e::t:=by
  cases es with
  |nil=>have:=mT j;simp at hl
  |cons e t=>exact⟨e,t,rfl⟩
 obtain⟨r,hr⟩: ∃r,bI j (e::t) m=r:=⟨_,rfl⟩;have htb:eO j (e::t) m=(r.2.next, { eD r.2 (nI ⟨e,r.1⟩)with At:=r.2.At.set e.slot.toNat (r.2.next:Int) }):=by
  unfold eO jT;rw[hr]
 rw[htb]at hF mA hA hP⊢;simp only at hF mA hA hP⊢;have oy:(eD r.2 (nI ⟨e,r.1⟩)).next=r.2.next+1:=rfl;have vW:Fin K.img (eD r.2 (nI ⟨e,r.1⟩)):=⟨hF.room,hF.line⟩;have hFr:Fin K.img r.2:=vW.back (Ex.put _ _);have hex:Ex m r.2:=by rw[<-hr];exact Ex.kids j _ m
 have hle:=hex.le;have P8:=hW.aK e nT;have QU:r.1.length=j:=by
  have:=(qZ j (e::t) m).2.2.2.2;rw[hr]at this;exact this
 have Vl:r.2.At.length=A.length:=by
  have:=(qZ j (e::t) m).2.1;rw[hr]at this;exact this.trans fK
 have cT:=hW.nd;rw[gK,qS]at cT;have uE:=List.pairwise_cons.1 hW.ord;have hA0:A.getD e.slot.toNat 0=(r.2.next:Int):=by
  rw[hA 0 e (mT j) rfl,bM,fV (by rw[Vl];exact P8.len)];rfl
 have hPr: ¬P r.2.next:=hP _ ⟨hle,by rw[oy];omega⟩;have k6: ∀x∈r.1,2<=x/\x<3072:=fun x hx=>by
  have:=Zs9 j (e::t) m hl x (by rw[hr];exact hx);rw[hr]at this;omega
 obtain⟨v1,s1,s2,s3⟩:=Zxb (K:=K) (v:=v) (par:=par) (top:=top) (f+(2^j-1)) out rest hM (show 2<=r.2.next by omega) (by rw[oy]at mA;omega) hPr (vW.put (by
   refine tN ?_;rw[show(qK ⟨e,r.1⟩).length=24+2*r.1.length from(Ny (x:=⟨e,r.1⟩) (by show r.1.length<=12;omega)).2];omega) (by omega)) P8 hA0 QU hj k6 (ht.imp id fun h=>h e rfl)
 have WE:v1.ax=v.ax:=s3.ax;obtain⟨gE,v',q1,q2,q3,q4,q5⟩:=h (e::t) m e f (out++[e]) rest v1 (fun b=>P b\/b=r.2.next) hj hl (by rw[hr];exact hFr) (by rw[hr];omega) hK hn fK (by rw[WE];exact hW) (fun i x hi hx=>by
   obtain⟨i,rfl⟩: ∃i',i=i'+1:=⟨i-1,by omega⟩;exact uE.1 x (kK (by simpa using hx))) (fun i x hi uz hx=>by
   rw[hr,hA i x uz hx,bM,ec,<-bM];obtain⟨i,rfl⟩: ∃i',i=i'+1:=⟨i-1,by omega⟩;have hx:t[i]? =some x:=by simpa using hx
   have DJ:=kK hx;have uL:=(hW.aK x (oP _ DJ)).s0;have he0:=P8.s0;intro hc;exact cT.1 (dE.2 ⟨x,DJ,by omega⟩)) s2 (fun b hb=>by
   rw[hr]at hb;rintro(h1|h1)
   ·exact hP b ⟨hb.1,by rw[oy];have:=hb.2;omega⟩ h1
   ·have:=hb.2;omega)
 rw[hr]at q1 q3 q5;have hp:=mT j;refine⟨e::gE,v',?_,?_,?_,?_,?_,by omega,by rw[oy]at mA;omega⟩
 ·rw[show f+2^j=f+(2^j-1)+1 by omega,s1,q1,dB]
  rfl
 ·obtain⟨n,hn⟩: ∃n,2^j=n+1:=⟨2^j-1,by omega⟩
  rw[hn,List.take_succ_cons]at q2⊢;rw[List.drop_succ_cons,dw]at q2;exact q2.cons e
 ·refine q3.congr fun b=>?_
  unfold eu;rw[oy];constructor
  ·rintro((h1|h1)|h1)
   ·exact .inl h1
   ·exact .inr (by omega)
   ·exact .inr (by omega)
  ·rintro(h1|h1)
   ·exact .inl (.inl h1)
   ·by_cases hb:b=r.2.next
    ·exact .inl (.inr hb)
    ·exact .inr (by omega)
 ·have:=s3.trans q4
  rwa [show 1+(2^j-1)=2^j by omega]at this
 ·rw[oy,q5];omega
theorem ZzY {K:bz} {A:List Int} {j:Nat} (hT:TW K A j) (h:KW K A j):KW K A (j+1):=by
 intro es m par f out rest v P hj hl hF mA hK hn fK hW TU hA hM hP;have e2:2^(j+1)=2*2^j:=by rw[mS];omega
 have hp:=mT j;obtain⟨iQ,sV⟩: ∃iQ,(es.drop (2^j)).take (2^j)=iQ:=⟨_,rfl⟩;obtain⟨m1,eC⟩: ∃m1,(bI j es m).2=m1:=⟨_,rfl⟩;obtain⟨T,vX⟩: ∃T,eO j iQ m1=T:=⟨_,rfl⟩;have hk:bI (j+1) es m=((bI j es m).1++[(T.1:Int)],T.2):=by
  rw[<-vX,<-eC,<-sV];rfl
 rw[hk]at hF mA hA hP⊢;simp only at hF mA hA hP⊢;have Jq:Ex m1 T.2:=by rw[<-vX];exact Ex.tree j iQ m1
 have VL:Ex m m1:=by rw[<-eC];exact Ex.kids j es m
 have leT:=Jq.le;have leK:=VL.le;have iT:(bI j es m).1.length=j:=(qZ j es m).2.2.2.2;have lN:iQ.length=2^j:=by rw[<-sV,cn,ej];omega
 have Tw: ∀i e,iQ[i]? =some e->es[2^j+i]? =some e:=fun i e he=>by
  have hi:=(cw.1 he).1;rw[<-sV,mR,aF (by omega),nR]at he;exact he
 have jB:sj K v.ax A iQ:=hW.sub (by rw[<-sV];exact(List.take_sublist _ _).trans (List.drop_sublist _ _));have Vk:m1.At.length=A.length:=by rw[<-eC];exact(qZ j es m).2.1.trans fK
 obtain⟨a1,v1,p1,p2,p3,p4,p5,p6,p7⟩:=hT iQ m1 par false (f+(2^j-1)) out (lg ⟨par,(bI j es m).1⟩ j++rest) v P (by omega) (by omega) (by rw[vX];exact hF) (by rw[vX];exact mA) hK (by omega) Vk jB
  (.inr fun e he=>TU (2^j+0) e (by omega) (Tw 0 e he)) (fun i e hi he=>by rw[vX];exact hA (2^j+i) e (by omega) (by omega) (Tw i e he)) hM (fun b hb=>hP b ⟨by have:=hb.1;omega,by rw[vX]at hb;exact hb.2⟩)
 rw[vX]at p1 p3 p5;have C3: ∀i e,i<2^j->es[i]? =some e->∀e'∈iQ,e'.slot.toNat≠e.slot.toNat:=fun i e hi he e' nx hc=>by
  have cT:=hW.nd;have fY:es=es.take (2^j)++es.drop (2^j):=(nU _ _).symm;rw[fY,dD,gO]at cT;have m1:e∈es.take (2^j):=kK (by rw[mR,aF hi];exact he);have m2:e'∈es.drop (2^j):=sa (by rw[sV];exact nx);have g1:=(hW.aK e (sa m1)).s0;have g2:=(hW.aK e' (r9 m2)).s0;exact cT.2.2 e.slot (dE.2 ⟨e,m1,rfl⟩) e'.slot (dE.2 ⟨e',m2,rfl⟩) (by omega)
 obtain⟨a2,v2,q1,q2,q3,q4,q5⟩:=h es m par f (out++a1) rest v1 (fun b=>P b\/eu m1.next T.2.next b) (by omega) (by omega) (by rw[eC];exact hF.back Jq) (by rw[eC];omega) hK hn fK (by rw[p4.ax];exact hW) TU
  (fun i e hi uz he=>by
   rw[hA i e hi (by omega) he,<-vX,N6 j iQ m1 _ (C3 i e uz he),eC]) p3 (fun b hb=>by
   rw[eC]at hb;rintro(h1|h1)
   ·exact hP b ⟨hb.1,by have:=hb.2;omega⟩ h1
   ·have:=hb.2;have:=h1.1;omega)
 rw[eC]at q3 q5;refine⟨a1++a2,v2,?_,?_,?_,?_,?_⟩
 ·have:=Zye par (bI j es m).1 (T.1:Int)
  rw[iT]at this;rw[this,show f+(2^(j+1)-1)=f+(2^j-1)+2^j by omega];rw[j3,p1,q1,dB]
 ·have ht:es.take (2^(j+1))=es.take (2^j)++iQ:=by
   rw[e2,show 2*2^j=2^j+2^j by omega,Bt,sV]
  rw[ht,Et (by rw[cn];omega)];rw[cF (by omega)]at p2;exact(List.perm_append_comm).trans (q2.append p2)
 ·refine q3.congr fun b=>?_
  unfold eu;constructor
  ·rintro((h1|h1)|h1)
   ·exact .inl h1
   ·exact .inr ⟨by omega,h1.2⟩
   ·exact .inr ⟨h1.1,by omega⟩
  ·rintro(h1|h1)
   ·exact .inl (.inl h1)
   ·by_cases hb:b<m1.next
    ·exact .inr ⟨h1.1,hb⟩
    ·exact .inl (.inr ⟨by omega,h1.2⟩)
 ·have:=p4.trans q4
  rwa [show 2^j+(2^j-1)=2^(j+1)-1 by omega]at this
 ·rw[p5,q5];omega
theorem O2 (K:bz) (A:List Int): ∀j,KW K A j
 |0=>by
  intro es m par f out rest v P _ hl _ _ _ _ _ _ _ _ hM _;refine⟨[],v,?_,?_,hM.congr fun b=>?_,⟨rfl,rfl,rfl,rfl,by simp⟩,rfl⟩
  ·rw[dZ];rfl
  ·cases es with
   |nil=>exact .refl _
   |cons e t=>exact .refl _
  ·constructor
   ·exact .inl
   ·rintro(h1|h1)
    ·exact h1
    ·have h2:=h1.1
     have h3:b<m.next:=h1.2;omega
 |j+1=>ZzY (ZsK (O2 K A j)) (O2 K A j)
theorem ZAy (K:bz) (A:List Int) (j:Nat):TW K A j:=ZsK (O2 K A j)
end Go.Gv.F
namespace Go.Gv.F
open Go.Gv
theorem B0 (cnt:Nat): ∀(c k:Nat) (hs:List Int) (rest:List bc) (m:bd) (s:Nat),(∀e∈rest,e.slot.toNat≠s)->(dc cnt c k hs rest m).2.At.getD s 0=m.At.getD s 0
 |0,_,_,_,_,_,_=>rfl
 |c+1,k,hs,rest,m,s,h=>by
  unfold dc;cases dG cnt k with
  |true=>exact(B0 cnt c _ _ _ _ s fun e he=>h e (r9 he)).trans (N6 k _ m s fun e he=>h e (sa he))
  |false=>exact B0 cnt c _ _ _ _ s h
theorem Zwc (cnt k:Nat):cnt/2^k*2^k=cnt/2^(k+1)*2^(k+1)+(if cnt/2^k%2=1 then 2^k else 0):=by
 have h1:cnt/2^(k+1)=cnt/2^k/2:=by rw[mS,KA]
 have h2:=Nat.div_add_mod (cnt/2^k) 2;rw[h1,mS];generalize cnt/2^k=a at h2;generalize 2^k=b;by_cases h:a%2=1
 ·rw[aF h]
  rw[h]at h2;have:a=2*(a/2)+1:=h2.symm
  calc a*b=(2*(a/2)+1)*b:=by rw[<-this]
   _=a/2*(b*2)+b:=by rw[pS,Nat.one_mul,qU 2 (a/2),Nat.mul_assoc,qU 2 b]
 ·rw[ay h]
  have h0:a%2=0:=by omega
  rw[h0]at h2;have:a=2*(a/2):=h2.symm
  calc a*b=(2*(a/2))*b:=by rw[<-this]
   _=a/2*(b*2)+0:=by rw[qU 2 (a/2),Nat.mul_assoc,qU 2 b,dC]
theorem MX {K:bz} {A:List Int} {cnt:Nat} : ∀(c k:Nat) (hs:List Int) (rest:List bc) (m:bd) (acc:List bc) (v:aU) (P:Nat->Prop),k+c=12->hs.length=12->(∀i,k<=i->hs.getD i 0=0)->rest.length=cnt/2^k*2^k->cnt<4096->
  Fin K.img (dc cnt c k hs rest m).2->(dc cnt c k hs rest m).2.next<=K.m->K.m<=3072->2<=m.next->m.At.length=A.length->sj K v.ax A rest->(∀e∈rest,A.getD e.slot.toNat 0=(dc cnt c k hs rest m).2.At.getD e.slot.toNat 0)->
  Mem K.m v.W P->(∀b,eu m.next (dc cnt c k hs rest m).2.next b->¬P b)->
  ∃gE v',kS K (k:Int) ((dc cnt c k hs rest m).1.drop k) acc v=some (acc++gE,v')/\gE.Perm rest/\Mem K.m v'.W (fun b=>P b\/eu m.next (dc cnt c k hs rest m).2.next b)/\vm v v' rest.length/\(dc cnt c k hs rest m).2.next=m.next+rest.length/\
   (∀i,i<k->(dc cnt c k hs rest m).1.getD i 0=hs.getD i 0)/\(∀i,k<=i->i<12->bif dG cnt i then 2<=(dc cnt c k hs rest m).1.getD i 0/\(dc cnt c k hs rest m).1.getD i 0<3072 else(dc cnt c k hs rest m).1.getD i 0=0)
 |0,k,hs,rest,m,acc,v,P,hkc,hl,hz,hr,hc,_,_,_,_,_,_,_,hM,_=>by
  have hk:k=12:=by omega
  subst hk;have h0:rest=[]:=by
   rw[Nat.div_eq_of_lt (show cnt<2^12 by omega)]at hr;exact r8.1 (by omega)
  subst h0;refine⟨[],v,?_,.refl _,hM.congr fun b=>?_,⟨rfl,rfl,rfl,rfl,by simp⟩,rfl,fun _ _=>rfl,fun i h1 h2=>by omega⟩
  ·show kS K _ (hs.drop 12) acc v=_
   rw[mO (by omega),dZ];rfl
  ·constructor
   ·exact .inl
   ·rintro(h1|h1)
    ·exact h1
    ·have h2:=h1.1
     have h3:b<m.next:=h1.2;omega
 |c+1,k,hs,rest,m,acc,v,P,hkc,hl,hz,hr,hc,hF,mA,hK,hn,fK,hW,hA,hM,hP=>by
  have hp:=mT k;have pz:=Zwc cnt k;have hlen: ∀(c k:Nat) (hs:List Int) (rest:List bc) (m:bd),(dc cnt c k hs rest m).1.length=hs.length:=fun c k hs rest m=>(Hb cnt c k hs rest m).2.2.2.2
  cases hb:dG cnt k with
  |false=>
   have e:dc cnt (c+1) k hs rest m=dc cnt c (k+1) hs rest m:=by
    conv=>lhs;unfold dc
    rw[hb,cond_false]
   rw[e]at hF mA hA hP⊢;have eH: ¬cnt/2^k%2=1:=vj hb;rw[ay eH,dC]at pz;obtain⟨gE,v',a1,a2,a3,a4,a5,a6,a7⟩:=MX c (k+1) hs rest m acc v P (by omega) hl (fun i hi=>hz i (by omega)) (by rw[hr,pz]) hc hF mA hK hn fK hW hA hM hP;have h0:(dc cnt c (k+1) hs rest m).1.getD k 0=0:=by rw[a6 k (by omega)];exact hz k (aA _)
   refine⟨gE,v',?_,a2,a3,a4,a5,fun i hi=>a6 i (by omega),fun i h1 h2=>?_⟩
   ·have iT:k<(dc cnt c (k+1) hs rest m).1.length:=by rw[hlen];omega
    rw[hJ iT];have Pz:(dc cnt c (k+1) hs rest m).1[k]=0:=by
     rw[bM,ba iT]at h0;exact h0
    rw[Pz];unfold kS;rw[show(!((0:Int)==0))=false from rfl,cond_false,show((k:Int)+1)=((k+1:Nat):Int) by omega];exact a1
   ·by_cases hi:i=k
    ·subst hi;rw[hb,cond_false];exact h0
    ·exact a7 i (by omega) h2
  |true=>
   obtain⟨T,hT⟩: ∃T,eO k (rest.take (2^k)) m=T:=⟨_,rfl⟩;have e:dc cnt (c+1) k hs rest m=dc cnt c (k+1) (hs.set k (T.1:Int)) (rest.drop (2^k)) T.2:=by
    conv=>lhs;unfold dc
    rw[hb,cond_true,hT]
   rw[e]at hF mA hA hP⊢;have eH:cnt/2^k%2=1:=mU hb;rw[aF eH]at pz;have Jq:Ex m T.2:=by rw[<-hT];exact Ex.tree k _ m
   have Tl:Ex T.2 (dc cnt c (k+1) (hs.set k (T.1:Int)) (rest.drop (2^k)) T.2).2:=Ex.dc cnt c _ _ _ _;have leT:=Jq.le;have leR:=Tl.le;have pG:(rest.take (2^k)).length=2^k:=by rw[cn];omega
   have fY:rest=rest.take (2^k)++rest.drop (2^k):=(nU _ _).symm;have C3: ∀e∈rest.take (2^k),∀e'∈rest.drop (2^k),e'.slot.toNat≠e.slot.toNat:=fun e he e' nx P3=>by
    have cT:=hW.nd;rw[fY,dD,gO]at cT;have g1:=(hW.aK e (sa he)).s0;have g2:=(hW.aK e' (r9 nx)).s0;exact cT.2.2 e.slot (dE.2 ⟨e,he,rfl⟩) e'.slot (dE.2 ⟨e',nx,rfl⟩) (by omega)
   obtain⟨a1,v1,p1,p2,p3,p4,p5,p6,p7⟩:=ZAy K A k (rest.take (2^k)) m CI true (K.m+1-2^k) [] [] v P (by omega) (by omega) (by rw[hT];exact hF.back Tl) (by rw[hT];omega) hK hn fK (hW.sub (List.take_sublist _ _)) (.inl rfl)
    (fun i e hi he=>by
     have hem:=kK he;rw[hT,hA e (sa hem),B0 cnt c _ _ _ _ _ (C3 e hem)]) hM (fun b cq=>hP b ⟨cq.1,by rw[hT]at cq;have:=cq.2;omega⟩)
   rw[hT]at p1 p3 p5 p6 p7;rw[cF (l:=rest.take (2^k)) (by omega)]at p2;have PS:T.2.At.length=A.length:=by rw[<-hT];exact(Hx k _ m).2.1.trans fK
   obtain⟨gE,v',b1,b2,b3,b4,b5,b6,b7⟩:=MX c (k+1) (hs.set k (T.1:Int)) (rest.drop (2^k)) T.2 (acc++a1) v1 (fun b=>P b\/eu m.next T.2.next b) (by omega) (by rw[ju];exact hl)
    (fun i hi=>by rw[bM,ec (by omega),<-bM];exact hz i (by omega)) (by rw[ej,hr,pz];omega) hc hF mA hK (by omega) PS (by rw[p4.ax];exact hW.sub (List.drop_sublist _ _)) (fun e he=>hA e (r9 he)) p3
    (fun b cq=>by
     rintro(h1|h1)
     ·exact hP b ⟨by have:=cq.1;omega,cq.2⟩ h1
     ·have:=cq.1;have:=h1.2;omega)
   have Qz:(dc cnt c (k+1) (hs.set k (T.1:Int)) (rest.drop (2^k)) T.2).1.getD k 0=(T.1:Int):=by
    rw[b6 k (by omega),bM,fV (by omega)];rfl
   refine⟨a1++gE,v',?_,?_,?_,?_,?_,fun i hi=>?_,fun i h1 h2=>?_⟩
   ·have iT:k<(dc cnt c (k+1) (hs.set k (T.1:Int)) (rest.drop (2^k)) T.2).1.length:=by rw[hlen,ju];omega
    rw[hJ iT];have Pz:(dc cnt c (k+1) (hs.set k (T.1:Int)) (rest.drop (2^k)) T.2).1[k]=(T.1:Int):=by
     rw[bM,ba iT]at Qz;exact Qz
    rw[Pz];unfold kS;have bp:(!((T.1:Int)==0))=true:=by rw[cg.2 (by omega)];rfl
    have htm:rU K (T.1:Int) (k:Int) v=some (a1,v1):=by
     unfold rU;obtain⟨f,hf⟩: ∃f,K.m+1-2^k=f+1:=⟨K.m-2^k,by omega⟩;rw[show K.m+1=K.m+1-2^k+2^k by omega,p1,hf];rfl
    rw[bp,cond_true,htm];simp only;rw[show((k:Int)+1)=((k+1:Nat):Int) by omega,b1,dB]
   ·have:=p2.append b2
    rwa [<-fY]at this
   ·refine b3.congr fun b=>?_
    unfold eu;constructor
    ·rintro((h1|h1)|h1)
     ·exact .inl h1
     ·exact .inr ⟨h1.1,by omega⟩
     ·exact .inr ⟨by omega,h1.2⟩
    ·rintro(h1|h1)
     ·exact .inl (.inl h1)
     ·by_cases ry:b<T.2.next
      ·exact .inl (.inr ⟨h1.1,ry⟩)
      ·exact .inr ⟨by omega,h1.2⟩
   ·have:=p4.trans b4
    rw[ej]at this
    rwa [show 2^k+(rest.length-2^k)=rest.length by omega]at this
   ·rw[b5,p5,ej];omega
   ·rw[b6 i (by omega),bM,ec (by omega),<-bM]
   ·by_cases hi:i=k
    ·subst hi;rw[hb,cond_true,Qz];exact⟨p6,p7⟩
    ·exact b7 i (by omega) h2
end Go.Gv.F
namespace Go.Gv.F
open Go.Gv
theorem ZtS: ∀(n:Nat) (s:List UInt8),s.length<=n->((cH s).all fun r=>rN r)=true->s.length<=3*(cH s).length
 |0,s,h,_=>by omega
 |n+1,s,h,ha=>by
  by_cases h0:0<s.length
  ·rw[Ig h0]at ha⊢
   rw[rZ,aH]at ha;have hp:=xB s 0;have ih:=ZtS n (s.drop (dec s 0).2) (by rw[ej];omega) ha.2;have h3:(dec s 0).2<=3:=by
    have ho:=ha.1;have hr:((dec s 0).1:Int)<=65519:=by
     unfold rN at ho;simp only[jt,aH,bx,lW]at ho;omega
    rw[vH]at hr⊢;by_cases c1:oc s 0<128
    ·rw[aF c1]
     show 1<=3;omega
    rw[ay c1]at hr⊢;by_cases c2:(194<=oc s 0/\oc s 0<=223)/\(128<=oc s (0+1)/\oc s (0+1)<=191)
    ·rw[aF c2]
     show 2<=3;omega
    rw[ay c2]at hr⊢;by_cases c3:(224<=oc s 0/\oc s 0<=239)/\((if oc s 0=224 then 160 else 128)<=oc s (0+1)/\oc s (0+1)<=(if oc s 0=237 then 159 else 191))/\(128<=oc s (0+2)/\oc s (0+2)<=191)
    ·rw[aF c3]
     show 3<=3;omega
    rw[ay c3]at hr⊢;by_cases c4:(240<=oc s 0/\oc s 0<=244)/\((if oc s 0=240 then 144 else 128)<=oc s (0+1)/\oc s (0+1)<=(if oc s 0=244 then 143 else 191))/\(128<=oc s (0+2)/\oc s (0+2)<=191)/\(128<=oc s (0+3)/\oc s (0+3)<=191)
    ·rw[aF c4]at hr
     exfalso;simp only at hr;by_cases e:oc s 0=240
     ·have:=c4.2.1.1
      rw[aF e]at this;omega
     ·omega
    rw[ay c4];show 1<=3;omega
   rw[ej]at ih;rw[ee];omega
  ·omega
theorem ZwC {s:List UInt8} (h:mg s=true):s.length<=24:=by
 unfold mg at h;rw[aH,aH,bx,bx]at h;have:=ZtS s.length s (aA _) h.2.2;omega
theorem ZtK (a b:bc):hY a b=dT (e4 a) (e4 b):=Zyn (e4 a) (e4 b)
theorem Zow: ∀ {l:List bc},zR l->l.Pairwise fun a b=>hY a b=true
 |[],_=> .nil
 |a::l,h=>by
  have ih:=Zow (l:=l) fun i x y h1 h2=>h (i+1) x y (by simpa using h1) (by simpa using h2)
  refine List.pairwise_cons.2 ⟨fun x hx=>?_,ih⟩;cases l with
  |nil=>cases hx
  |cons b t=>
   have cR:hY a b=true:=h 0 a b rfl rfl;rcases cd.1 hx with rfl|hx
   ·exact cR
   ·have hbx:=(List.pairwise_cons.1 ih).1 x hx
    rw[ZtK]at cR hbx⊢;exact Nz cR hbx
theorem Zyc {es gE:List bc} (hp:gE.Perm es) (ho:es.Pairwise fun a b=>hY a b=true) (hd:(es.map (·.slot)).Nodup):pM gE=es:=by
 have jh:Diff gE:=by
  have:=(hp.map (·.slot)).nodup_iff.2 hd;unfold Diff;exact List.pairwise_map.1 this
 have sR:=Nf (LZ jh);have hs:(es.map e4).Pairwise (fun a b=>dT b a=false):=by
  rw[List.pairwise_map];refine ho.imp fun {a b} h=>?_
  rw[ZtK]at h;exact Nr h
 have:=ZoE (l:=gE.map e4) (l':=es.map e4) ((hp.map e4).symm) sR hs;unfold pM;rw[<-this,xb,show Bn∘e4=id from rfl,List.map_id]
def O4 (l:List cJ) (s:Nat):Prop:=∀e∈(l.map (·.aK)).flatten,e.slot.toNat≠s
theorem HV: ∀(l:List cJ) (cX:List Int) (m:bd) (s:Nat),O4 l s->(eG l cX m).2.At.getD s 0=m.At.getD s 0
 |[],_,_,_,_=>rfl
 |x::r,cX,m,s,h=>by
  have h1: ∀e∈x.aK,e.slot.toNat≠s:=fun e he=>h e (by rw[gK,mQ];exact ve _ he)
  have h2:O4 r s:=fun e he=>h e (by rw[gK,mQ];exact zd _ he)
  exact(HV r _ _ s h2).trans (B0 _ _ _ _ _ _ s h1)
theorem N9 {K:bz} {A:List Int} : ∀(l:List cJ) (cX:List Int) (m:bd) (v:aU) (P:Nat->Prop),Fin K.img (eG l cX m).2->(eG l cX m).2.next<=K.m->K.m<=3072->2<=m.next->m.At.length=A.length->
  (∀h∈l,sj K v.ax A h.aK/\mg h.name=true/\h.aK.length<4096)->(((l.map (·.aK)).flatten).map (·.slot)).Nodup->N1 (v.av++l)->
  (∀e∈(l.map (·.aK)).flatten,A.getD e.slot.toNat 0=(eG l cX m).2.At.getD e.slot.toNat 0)->Mem K.m v.W P->(∀b,eu m.next (eG l cX m).2.next b->¬P b)->
  ∃v' new,(eG l cX m).1=cX++new/\new.length=l.length/\new.Nodup/\(∀x∈new,(m.next:Int)<=x/\x<(eG l cX m).2.next)/\qc K v.av.length new v=some v'/\Mem K.m v'.W (fun b=>P b\/eu m.next (eG l cX m).2.next b)/\
   v'.av=v.av++l/\v'.ax=v.ax/\v'.gens=v.gens/\v'.free=v.free/\v'.nodes=v.nodes+((iC l:Nat):Int)
 |[],cX,m,v,P,_,_,_,_,_,_,_,_,_,hM,_=>by
  refine⟨v,[],(dZ _).symm,rfl,.nil,fun x h=>(nomatch h),rfl,hM.congr fun b=>?_,(dZ _).symm,rfl,rfl,rfl,by simp[iC]⟩;constructor
  ·exact .inl
  ·rintro(h1|h1)
   ·exact h1
   ·have h2:=h1.1
    have h3:b<m.next:=h1.2;omega
 |x::r,cX,m,v,P,hF,mA,hK,hn,fK,hh,cT,uE,hA,hM,hP=>by
  obtain⟨T,hT⟩: ∃T,roots x.aK m=T:=⟨_,rfl⟩;obtain⟨m1,eC⟩: ∃m1,eD T.2 (oF ⟨x.name,x.aK.length,T.1⟩)=m1:=⟨_,rfl⟩;have e:eG (x::r) cX m=eG r (cX++[(T.2.next:Int)]) m1:=by
   conv=>lhs;unfold eG
   rw[hT,<-eC]
  rw[e]at hF mA hA hP⊢;have VJ:Ex m T.2:=by rw[<-hT];exact Ex.dc _ _ _ _ _ m
  have VK:Ex T.2 m1:=by rw[<-eC];exact Ex.put _ _
  have Tk:Ex m1 (eG r (cX++[(T.2.next:Int)]) m1).2:=Ex.eG r _ _;have l1:=VJ.le;have l2:m1.next=T.2.next+1:=by rw[<-eC];rfl
  have l3:=Tk.le;obtain⟨hW,QV,C1⟩:=hh x nT;rw[gK,mQ]at cT hA;have Yq:=cT;rw[dD,gO]at cT;have C3: ∀e∈x.aK,O4 r e.slot.toNat:=fun e he e' nx hc=>by
   have g1:=(hW.aK e he).s0;obtain⟨w,hw,hew⟩:=List.mem_flatten.1 nx;obtain⟨g,hg,rfl⟩:=dE.1 hw;have g2:=((hh g (oP _ hg)).1.aK e' hew).s0;exact cT.2.2 e.slot (dE.2 ⟨e,he,rfl⟩) e'.slot (dE.2 ⟨e',nx,rfl⟩) (by omega)
  have oq:Fin K.img m1:=hF.back Tk;have Je:Fin K.img T.2:=oq.back VK;have PS:T.1.length=12:=by rw[<-hT];exact(BT x.aK m).2.2.2.2
  have Vq:T.2.At.length=A.length:=by rw[<-hT];exact(BT x.aK m).2.1.trans fK
  have TF:m1.At=T.2.At:=by rw[<-eC];rfl
  obtain⟨q1,Du⟩: ∃k,T.2.next=k:=⟨_,rfl⟩;have hPq: ¬P T.2.next:=hP _ ⟨l1,by omega⟩;have yq:dc x.aK.length 12 0 (List.replicate 12 0) x.aK m=T:=hT;have hAx: ∀e∈x.aK,A.getD e.slot.toNat 0=T.2.At.getD e.slot.toNat 0:=fun e he=>by
   rw[hA e (ve _ he),HV r _ _ _ (C3 e he),TF]
  have T9:=fun(acc:List bc) (v:aU) (P:Nat->Prop) (hs:sj K v.ax A x.aK) (hM:Mem K.m v.W P) (hd: ∀b,eu m.next T.2.next b->¬P b)=>
   MX (K:=K) (A:=A) (cnt:=x.aK.length) 12 0 (List.replicate 12 0) x.aK m acc v P rfl rfl (fun i _=>by
    rw[bM,y9];split<;>rfl) (by rw[zh,Nat.div_one,dx]) C1 (by rw[yq];exact Je) (by rw[yq];omega) hK hn fK hs (by rw[yq];exact hAx) hM (by rw[yq];exact hd)
  obtain⟨_,_,_,_,_,_,w5,_,w7⟩:=T9 [] v P hW hM (fun b hb=>hP b ⟨hb.1,by have:=hb.2;omega⟩);rw[yq]at w5 w7;have hhr: ∀k∈T.1,0<=k/\k<3072:=fun k hk=>by
   obtain⟨i,hi,rfl⟩:=Br hk;have:=w7 i (by omega) (by omega);rw[bM,ba hi]at this;cases hb:dG x.aK.length i with
   |true=>rw[hb,cond_true]at this;have h2:2<=T.1[i]/\T.1[i]<3072:=this;omega
   |false=>rw[hb,cond_false]at this;have h2:T.1[i]=0:=this;omega
  obtain⟨hql,hqb⟩:=ZwY (x:=⟨x.name,x.aK.length,T.1⟩) PS C1 QV (ZwC QV) (fun i hi=>by
   have:=w7 i (by omega) hi;unfold qu ra;simp only;cases hb:dG x.aK.length i with
   |true=>
    rw[hb,cond_true]at this;rw[cond_true,ah (show T.1.getD i 0>=2 by omega),ah this.2];rfl
   |false=>
    rw[hb,cond_false]at this;rw[cond_false,this];rfl) hhr
  have Dh:gU K.img T.2.next=oF ⟨x.name,x.aK.length,T.1⟩:=Fin.put (by rw[eC];exact oq) hql (by omega);obtain⟨t1,t2⟩:=z6 hM (show 2<=T.2.next by omega) (show T.2.next<K.m by omega) hPq;rw[Dh,hqb]at t1;obtain⟨gE,v2,u1,u2,u3,u4,_,_,_⟩:=T9 [] { v with W:=c9 K.m v.W T.2.next } (fun b=>P b\/b=T.2.next) hW t2 (fun b hb=>by
   rintro(h1|h1)
   ·exact hP b ⟨hb.1,by have:=hb.2;omega⟩ h1
   ·have:=hb.2;omega)
  rw[yq,dw,fu]at u1;rw[yq]at u3;have T5:pM gE=x.aK:=Zyc u2 hW.ord hW.nd;obtain⟨v',new,d1,d2,d3,d4,d5,d6,d7,d8,d9,d10,d11⟩:=N9 r (cX++[(T.2.next:Int)]) m1 { v2 with av:=v2.av++[⟨x.name,pM gE⟩] } (fun b=>(P b\/b=T.2.next)\/eu m.next T.2.next b) hF mA hK (by omega) (by rw[TF];exact Vq)
   (fun h hm=>by
    have:=hh h (oP _ hm);rw[show v2.ax=v.ax from u4.ax];exact this) (by
    exact cT.2.1) (by
    rw[show v2.av=v.av from u4.av,T5];rw[dB];exact uE) (fun e he=>hA e (zd _ he)) u3 (fun b hb=>by
    rintro((h1|h1)|h1)
    ·exact hP b ⟨by have:=hb.1;omega,hb.2⟩ h1
    ·have:=hb.1;omega
    ·have:=hb.1;have:=h1.2;omega)
  have C9:v2.av=v.av:=u4.av;have C5:iC (x::r)=x.aK.length+iC r:=by unfold iC;rw[gK,List.sum_cons]
  refine⟨v',(T.2.next:Int)::new,by rw[d1,dB];rfl,by rw[ee,d2,ee],?_,?_,?_,?_,?_,d8.trans u4.ax,d9.trans u4.gens,d10.trans u4.free,?_⟩
  ·refine qS.2 ⟨fun h=>?_,d3⟩
   have:=(d4 _ h).1;omega
  ·intro y hy
   rcases cd.1 hy with rfl|hy
   ·omega
   ·have:=d4 y hy
    omega
  ·unfold qc
   rw[t1];simp only;have hna:Ah { v with W:=c9 K.m v.W T.2.next } v.av.length x.name=true:=by
    unfold Ah;by_cases h0:v.av.length=0
    ·rw[ah h0];rfl
    ·rw[ao h0,cond_false]
     simp only;have hg:v.av[v.av.length-1]? =some (v.av[v.av.length-1]'(by omega)):=ba (by omega);rw[hg];simp only;refine ah (uE (v.av.length-1) _ x ?_ ?_)
     ·rw[iN (by omega)];exact hg
     ·rw[gN (by omega),show v.av.length-1+1-v.av.length=0 by omega];rfl
   rw[hna,cond_true];rw[show(0:Int)=((0:Nat):Int)from rfl,u1];simp only;simp only[C9,aZ,tE]at d5;rw[C9];exact d5
  ·refine d6.congr fun b=>?_
   unfold eu;constructor
   ·rintro(((h1|h1)|h1)|h1)
    ·exact .inl h1
    ·exact .inr (by omega)
    ·exact .inr ⟨h1.1,by have:=h1.2;omega⟩
    ·exact .inr ⟨by have:=h1.1;omega,h1.2⟩
   ·rintro(h1|h1)
    ·exact .inl (.inl (.inl h1))
    ·by_cases hb:b<T.2.next
     ·exact .inl (.inr ⟨h1.1,hb⟩)
     ·by_cases eH:b=T.2.next
      ·exact .inl (.inl (.inr eH))
      ·exact .inr ⟨by omega,h1.2⟩
  ·rw[d7]
   simp only;rw[C9,T5,dB];rfl
  ·rw[d11]
   simp only;rw[u4.nodes,C5];simp only;omega
end Go.Gv.F
namespace Go.Gv.F
open Go.Gv
theorem Zu5 {gens free:List Int} {B:List UInt8} (c:Nat): ∀(f:Nat) (ls:List Int) (m:bd),gens.length<=f+7*c->2<=m.next->(∀g,(iL (og (ja gens m.At free g))).length=64)->
  (fg gens free c f ls m).1=ls++Zs m.next ((gens.length-f+6)/7)/\(fg gens free c f ls m).2.next=m.next+(gens.length-f+6)/7/\(fg gens free c f ls m).2.At=m.At/\
   (Fin B (fg gens free c f ls m).2->∀t,t<(gens.length-f+6)/7->gU B (m.next+t)=iL (og (ja gens m.At free (f+7*t)))):=by
 induction c with
 |zero=>
  intro f ls m h _ _;have hz:(gens.length-f+6)/7=0:=by omega
  have e:fg gens free 0 f ls m=(ls,m):=rfl;rw[e,hz];refine⟨?_,rfl,rfl,fun _ t ht=>by omega⟩;unfold Zs;simp
 |succ c ih=>
  intro f ls m h h1 np;by_cases hf:f<gens.length
  ·obtain⟨m2,dH⟩: ∃m2,eD m (iL (og (ja gens m.At free f)))=m2:=⟨_,rfl⟩
   have e:fg gens free (c+1) f ls m=fg gens free c (f+7) (ls++[(m.next:Int)]) m2:=by
    conv=>lhs;unfold fg
    rw[ah hf,cond_true,dH]
   have hn:m2.next=m.next+1:=by rw[<-dH];rfl
   have hA:m2.At=m.At:=by rw[<-dH];rfl
   rw[e];have hex:=Ex.fg gens free c (f+7) (ls++[(m.next:Int)]) m2;obtain⟨a1,a2,a3,a4⟩:=ih (f+7) (ls++[(m.next:Int)]) m2 (by omega) (by omega) (by rw[hA];exact np);generalize fg gens free c (f+7) (ls++[(m.next:Int)]) m2=R at a1 a2 a3 a4 hex⊢;rw[hA]at a3 a4;rw[hn]at a1 a2 a4;have hd:(gens.length-f+6)/7=(gens.length-(f+7)+6)/7+1:=by omega
   refine⟨?_,by rw[a2,hd];omega,a3,fun hF t ht=>?_⟩
   ·rw[a1,dB,hd]
    congr 1;unfold Zs;rw[List.range_succ_eq_map,gK,xb,List.singleton_append,dC];congr 1;refine vd fun i _=>?_
    show((m.next+1+i:Nat):Int)=((m.next+(i+1):Nat):Int);omega
   ·cases t with
    |zero=>
     rw[Nat.mul_zero,dC,dC];have oq:=hF.back hex;rw[<-dH]at oq;exact oq.put (np f) h1
    |succ t=>
     have:=a4 hF t (by omega);rw[show m.next+(t+1)=m.next+1+t by omega,show f+7*(t+1)=f+7+7*t by omega];exact this
  ·have e:fg gens free (c+1) f ls m=(ls,m):=by
    conv=>lhs;unfold fg
    rw[ao hf,cond_false]
   have:(gens.length-f+6)/7=0:=by omega
   rw[e,this];refine⟨?_,rfl,rfl,fun _ t ht=>by omega⟩;unfold Zs;simp
theorem Zrb {leaves:List Int} {B:List UInt8} : ∀(c i:Nat) (top:List Int) (m:bd),i+c=16->leaves.length<=256->top.length=16->2<=m.next->(∀g,(iL (kb (iD leaves g))).length=64)->
  (∀j,i<=j->top.getD j 0=0)->
  (fW leaves c i top m).2.next=m.next+((leaves.length+15)/16-i)/\(fW leaves c i top m).2.At=m.At/\(fW leaves c i top m).1.length=16/\
   (∀j,(fW leaves c i top m).1.getD j 0=if j<i then top.getD j 0 else if 16*j<leaves.length then((m.next+(j-i):Nat):Int)else 0)/\
   (Fin B (fW leaves c i top m).2->∀j,i<=j->16*j<leaves.length->gU B (m.next+(j-i))=iL (kb (iD leaves j)))
 |0,i,top,m,h,hl,ht,_,_,hz=>by
  have:(leaves.length+15)/16-i=0:=by omega
  rw[this];refine⟨rfl,rfl,ht,fun j=>?_,fun _ j h1 h2=>by omega⟩;show top.getD j 0=_;split
  ·rfl
  ·rename_i hj
   rw[hz j (by omega),ay (by omega)]
 |c+1,i,top,m,h,hl,ht,h1,np,hz=>by
  by_cases hf:16*i<leaves.length
  ·obtain⟨m2,dH⟩: ∃m2,eD m (iL (kb (iD leaves i)))=m2:=⟨_,rfl⟩
   have e:fW leaves (c+1) i top m=fW leaves c (i+1) (top.set i (m.next:Int)) m2:=by
    conv=>lhs;unfold fW
    rw[ah hf,cond_true,dH]
   have hn:m2.next=m.next+1:=by rw[<-dH];rfl
   have hA:m2.At=m.At:=by rw[<-dH];rfl
   rw[e];have hex:=Ex.fW leaves c (i+1) (top.set i (m.next:Int)) m2;obtain⟨a1,a2,a3,a4,a5⟩:=Zrb (leaves:=leaves) (B:=B) c (i+1) (top.set i (m.next:Int)) m2 (by omega) hl (by rw[ju];exact ht) (by omega) np (fun j hj=>by
    rw[bM,ec (by omega),<-bM];exact hz j (by omega))
   generalize fW leaves c (i+1) (top.set i (m.next:Int)) m2=R at a1 a2 a3 a4 a5 hex⊢;rw[hn]at a1 a4 a5;rw[hA]at a2;refine⟨by rw[a1];omega,a2,a3,fun j=>?_,fun hF j uB AS=>?_⟩
   ·rw[a4 j]
    by_cases hj:j<i
    ·rw[aF (by omega),aF hj,bM,ec (by omega),<-bM]
    ·rw[ay hj]
     by_cases ij:j=i
     ·subst ij
      rw[aF (by omega),aF hf,bM,fV (by omega),pV];rfl
     ·rw[ay (by omega)]
      by_cases uC:16*j<leaves.length
      ·rw[aF uC,aF uC]
       omega
      ·rw[ay uC,ay uC]
   ·by_cases ij:j=i
    ·subst ij
     rw[pV,dC];have oq:=hF.back hex;rw[<-dH]at oq;exact oq.put (np j) h1
    ·have:=a5 hF j (by omega) AS
     rw[show m.next+(j-i)=m.next+1+(j-(i+1)) by omega];exact this
  ·have e:fW leaves (c+1) i top m=(top,m):=by
    conv=>lhs;unfold fW
    rw[ao hf,cond_false]
   have:(leaves.length+15)/16-i=0:=by omega
   rw[e,this];refine⟨rfl,rfl,ht,fun j=>?_,fun _ j h1 h2=>by omega⟩;show top.getD j 0=_;split
   ·rfl
   ·rename_i hj
    rw[hz j (by omega),ay (by omega)]
def gY (SB:Nat->bF) (used s n:Nat):List bF:=((List.range' s n).filter fun k=>decide (k<used)).map SB
theorem Ih (SB:Nat->bF) (used s m n:Nat):gY SB used s (m+n)=gY SB used s m++gY SB used (s+m) n:=by
 unfold gY;rw[<-dD,<-w8,List.range'_append_1]
theorem NW (SB:Nat->bF) (used s n:Nat) (h:used<=s):gY SB used s n=[]:=by
 unfold gY;rw[Ky.2 fun k hk=>?_]
 ·rfl
 ·rw[List.mem_range'_1]at hk
  rw[bx];omega
structure Iz (K:bz) (SB:Nat->bF) (used:Nat):Prop where
 u:K.sup.used=(used:Int)
 ok: ∀k,k<used->sI K.sup (SB k)=true
theorem Zne {K:bz} {SB:Nat->bF} {used:Nat} (hS:Iz K SB used): ∀(l:List bF) (s:Nat) (v:aU),(∀i x,l[i]? =some x->x=if s+i<used then SB (s+i)else lr)->
  kP K (s:Int) l v=some { v with ax:=v.ax++gY SB used s l.length }
 |[],s,v,_=>by
  unfold gY;simp[kP]
 |x::r,s,v,h=>by
  have hx:=h 0 x rfl;rw[dC]at hx;have ih:=fun v=>Zne hS r (s+1) v fun i y hy=>by
   have:=h (i+1) y (by simpa using hy);rw[show s+(i+1)=s+1+i by omega]at this;exact this
  unfold kP oh;rw[hS.u];have hsg:gY SB used s (x::r).length=(if s<used then[SB s]else[])++gY SB used (s+1) r.length:=by
   rw[ee,show r.length+1=1+r.length by omega,Ih];congr 1;unfold gY;rw[List.range'_one];by_cases hs:s<used
   ·rw[aF hs]
    simp[hs]
   ·rw[ay hs]
    simp[hs]
  rw[hsg];by_cases hs:s<used
  ·rw[aF hs]at hx
   subst hx;rw[ao (show ¬(s:Int)>=(used:Int) by omega),cond_false,hS.ok s hs,cond_true,aF hs];simp only;rw[show((s:Int)+1)=((s+1:Nat):Int) by omega,ih];simp[dB]
  ·rw[ay hs]at hx
   subst hx;rw[ah (show(s:Int)>=(used:Int) by omega),cond_true,show xM lr=true from rfl,cond_true,ay hs];simp only;rw[show((s:Int)+1)=((s+1:Nat):Int) by omega,ih];simp
structure NX (K:bz) (SB:Nat->bF) (used a nl:Nat):Prop where
 two:2<=a
 top:a+nl<=K.m
 all:used<=7*nl
 at': ∀t,t<nl->∃l,ZG (gU K.img (a+t))= .leaf l/\l.length=7/\∀i x,l[i]? =some x->x=if 7*t+i<used then SB (7*t+i)else lr
theorem Nh {K:bz} {SB:Nat->bF} {used a nl:Nat} (hS:Iz K SB used) (hL:NX K SB used a nl) (x5:Nat): ∀(l:List Int) (k:Nat) (v:aU) (P:Nat->Prop),(∀i y,l[i]? =some y->y=if 16*x5+k+i<nl then((a+(16*x5+k+i):Nat):Int)else 0)->
  Mem K.m v.W P->(∀b,eu (a+(16*x5+k)) (a+min (16*x5+k+l.length) nl) b->¬P b)->
  ∃W',Z8 K (nl:Int) (x5:Int) (k:Int) l v=some { v with W:=W',ax:=v.ax++gY SB used (7*(16*x5+k)) (7*l.length) } /\Mem K.m W' (fun b=>P b\/eu (a+(16*x5+k)) (a+min (16*x5+k+l.length) nl) b)
 |[],k,v,P,_,hM,_=>by
  refine⟨v.W,?_,hM.congr fun b=>?_⟩
  ·unfold gY
   simp[Z8]
  ·unfold eu
   constructor
   ·exact .inl
   ·rintro(h|h)
    ·exact h
    ·simp only[xa]at h
     omega
 |y::r,k,v,P,h,hM,hP=>by
  have hy:=h 0 y rfl;rw[dC]at hy;have h': ∀i z,r[i]? =some z->z=if 16*x5+(k+1)+i<nl then((a+(16*x5+(k+1)+i):Nat):Int)else 0:=fun i z hz=>by
   have:=h (i+1) z (by simpa using hz);rw[show 16*x5+k+(i+1)=16*x5+(k+1)+i by omega]at this;exact this
  have hlen:(y::r).length=r.length+1:=rfl;have Dz:gY SB used (7*(16*x5+k)) (7*(y::r).length)=gY SB used (7*(16*x5+k)) 7++gY SB used (7*(16*x5+(k+1))) (7*r.length):=by
   rw[hlen,show 7*(r.length+1)=7+7*r.length by omega,Ih,show 7*(16*x5+k)+7=7*(16*x5+(k+1)) by omega]
  rw[hlen]at hP⊢;unfold Z8;by_cases hi:16*x5+k<nl
  ·rw[aF hi]at hy
   subst hy;have bp:(!((((a+(16*x5+k):Nat):Int))==0))=true:=by
    have:=hL.two;rw[cg.2 (by omega)];rfl
   rw[bp,ah (show(x5:Int)*16+(k:Int)<(nl:Int) by omega),show(true==true)=true from rfl,cond_true,cond_true];have h1:=hL.two;have h2:=hL.top;obtain⟨t1,t2⟩:=z6 hM (k:=a+(16*x5+k)) (by omega) (by omega) (hP _ ⟨aA _,by omega⟩);obtain⟨lf,f1,f2,f3⟩:=hL.at' (16*x5+k) hi;rw[f1]at t1;have hlg:=Zne hS lf (7*(16*x5+k)) { v with W:=c9 K.m v.W ((a+(16*x5+k):Nat):Int) } f3;have JA:kA K ((a+(16*x5+k):Nat):Int) (((x5:Int)*16+(k:Int))*7) v=some { v with W:=c9 K.m v.W ((a+(16*x5+k):Nat):Int),ax:=v.ax++gY SB used (7*(16*x5+k)) 7 } :=by
    unfold kA;rw[t1];simp only;rw[show((x5:Int)*16+(k:Int))*7=((7*(16*x5+k):Nat):Int) by omega,hlg,f2]
   rw[JA];simp only;obtain⟨W',w1,w2⟩:=Nh hS hL x5 r (k+1) { v with W:=c9 K.m v.W ((a+(16*x5+k):Nat):Int),ax:=v.ax++gY SB used (7*(16*x5+k)) 7 } (fun b=>P b\/b=a+(16*x5+k)) h' t2 (fun b hb=>by
    rintro(h3|h3)
    ·exact hP b ⟨by have:=hb.1;omega,by have:=hb.2;omega⟩ h3
    ·have:=hb.1;omega)
   refine⟨W',?_,w2.congr fun b=>?_⟩
   ·rw[show((k:Int)+1)=((k+1:Nat):Int) by omega,w1,hlen.symm,Dz]
    simp[dB]
   ·unfold eu
    constructor
    ·rintro((h3|h3)|h3)
     ·exact .inl h3
     ·exact .inr (by omega)
     ·exact .inr (by omega)
    ·rintro(h3|h3)
     ·exact .inl (.inl h3)
     ·by_cases hb:b=a+(16*x5+k)
      ·exact .inl (.inr hb)
      ·exact .inr (by omega)
  ·rw[ay hi]at hy
   subst hy;rw[show(!((0:Int)==0))=false from rfl,ao (show ¬(x5:Int)*16+(k:Int)<(nl:Int) by omega),show(false==false)=true from rfl,cond_true,cond_false];obtain⟨W',w1,w2⟩:=Nh hS hL x5 r (k+1) v P h' hM (fun b hb=>by have:=hb.1;have:=hb.2;omega);refine⟨W',?_,w2.congr fun b=>?_⟩
   ·have:=hL.all
    rw[show((k:Int)+1)=((k+1:Nat):Int) by omega,w1,hlen.symm,Dz,NW SB used _ 7 (by omega),fu]
   ·unfold eu
    constructor
    ·rintro(h3|h3)
     ·exact .inl h3
     ·omega
    ·rintro(h3|h3)
     ·exact .inl h3
     ·omega
structure Zxo (K:bz) (a nl b:Nat):Prop where
 ge:a+nl<=b
 top:b+(nl+15)/16<=K.m
 at': ∀j,16*j<nl->∃l,ZG (gU K.img (b+j))= .cA l/\l.length=16/\∀i y,l[i]? =some y->y=if 16*j+i<nl then((a+(16*j+i):Nat):Int)else 0
theorem NH {K:bz} {SB:Nat->bF} {used a nl b:Nat} (hS:Iz K SB used) (hL:NX K SB used a nl) (hF:Zxo K a nl b): ∀(l:List Int) (k:Nat) (v:aU) (P:Nat->Prop),l.length+k=16->nl<=256->(∀i y,l[i]? =some y->y=if 16*(k+i)<nl then((b+(k+i):Nat):Int)else 0)->
  Mem K.m v.W P->(∀x,eu (b+k) (b+(nl+15)/16) x\/eu (a+16*k) (a+nl) x->¬P x)->
  ∃W',lG K (nl:Int) (k:Int) l v=some { v with W:=W',ax:=v.ax++gY SB used (112*k) (112*l.length) } /\Mem K.m W' (fun x=>P x\/(eu (b+k) (b+(nl+15)/16) x\/eu (a+16*k) (a+nl) x))
 |[],k,v,P,hk,hn,_,hM,_=>by
  refine⟨v.W,?_,hM.congr fun x=>?_⟩
  ·unfold gY
   simp[lG]
  ·unfold eu
   have:k=16:=by simpa using hk
   constructor
   ·exact .inl
   ·rintro(h|h|h)
    ·exact h
    ·omega
    ·omega
 |y::r,k,v,P,hk,hn,h,hM,hP=>by
  have hy:=h 0 y rfl;rw[dC]at hy;have h': ∀i z,r[i]? =some z->z=if 16*(k+1+i)<nl then((b+(k+1+i):Nat):Int)else 0:=fun i z hz=>by
   have:=h (i+1) z (by simpa using hz);rw[show k+(i+1)=k+1+i by omega]at this;exact this
  have hlen:(y::r).length=r.length+1:=rfl;have Dz:gY SB used (112*k) (112*(y::r).length)=gY SB used (112*k) 112++gY SB used (112*(k+1)) (112*r.length):=by
   rw[hlen,show 112*(r.length+1)=112+112*r.length by omega,Ih,show 112*k+112=112*(k+1) by omega]
  rw[hlen]at hk;have g1:=hL.two;have g2:=hL.top;have g3:=hF.ge;have g4:=hF.top;have g5:=hL.all;unfold lG;by_cases hi:16*k<nl
  ·rw[aF hi]at hy
   subst hy;have bp:(!((((b+k:Nat):Int))==0))=true:=by
    rw[cg.2 (by omega)];rfl
   have QH:((((b+k:Nat):Int))==0)=false:=cg.2 (by omega);rw[bp,ah (show(k:Int)*16<(nl:Int) by omega),show(true==true)=true from rfl,cond_true,QH,cond_false];obtain⟨t1,t2⟩:=z6 hM (k:=b+k) (by omega) (by omega) (hP _ (.inl ⟨aA _,by omega⟩));obtain⟨lf,f1,f2,f3⟩:=hF.at' k hi;rw[f1]at t1;rw[t1];simp only;obtain⟨W2,u1,u2⟩:=Nh hS hL k lf 0 { v with W:=c9 K.m v.W ((b+k:Nat):Int) } (fun x=>P x\/x=b+k) (fun i z hz=>by
    have:=f3 i z hz;rw[dC];exact this) t2 (fun x hx=>by
    have h1:=hx.1;have h2:=hx.2;rintro(h3|h3)
    ·exact hP x (.inr ⟨by omega,by omega⟩) h3
    ·omega)
   rw[f2]at u1 u2;rw[show(0:Int)=((0:Nat):Int)from rfl,u1];simp only;obtain⟨W',w1,w2⟩:=NH hS hL hF r (k+1) { v with W:=W2,ax:=v.ax++gY SB used (7*(16*k+0)) (7*16) } (fun x=>(P x\/x=b+k)\/eu (a+(16*k+0)) (a+min (16*k+0+16) nl) x) (by omega) hn h' u2 (fun x hx=>by
    have JV:(b+(k+1)<=x/\x<b+(nl+15)/16)\/(a+16*(k+1)<=x/\x<a+nl):=hx;rintro((h3|h3)|h3)
    ·refine hP x ?_ h3
     rcases JV with h4|h4
     ·exact .inl ⟨by omega,h4.2⟩
     ·exact .inr ⟨by omega,h4.2⟩
    ·omega
    ·have h5:=h3.1
     have h6:=h3.2;omega)
   refine⟨W',?_,w2.congr fun x=>?_⟩
   ·rw[show((k:Int)+1)=((k+1:Nat):Int) by omega,w1,Dz]
    rw[show 7*(16*k+0)=112*k by omega];simp[dB]
   ·unfold eu
    constructor
    ·rintro(((h3|h3)|h3)|h3)
     ·exact .inl h3
     ·exact .inr (.inl (by omega))
     ·exact .inr (.inr (by omega))
     ·rcases h3 with h3|h3
      ·exact .inr (.inl (by omega))
      ·exact .inr (.inr (by omega))
    ·rintro(h3|h3|h3)
     ·exact .inl (.inl (.inl h3))
     ·by_cases hb:x=b+k
      ·exact .inl (.inl (.inr hb))
      ·exact .inr (.inl (by omega))
     ·by_cases hb:x<a+(16*k+16)
      ·exact .inl (.inr (by omega))
      ·exact .inr (.inr (by omega))
  ·rw[ay hi]at hy
   subst hy;rw[show(!((0:Int)==0))=false from rfl,ao (show ¬(k:Int)*16<(nl:Int) by omega),show(false==false)=true from rfl,cond_true,show((0:Int)==0)=true from rfl,cond_true];obtain⟨W',w1,w2⟩:=NH hS hL hF r (k+1) v P (by omega) hn h' hM (fun x hx=>by
    have JV:(b+(k+1)<=x/\x<b+(nl+15)/16)\/(a+16*(k+1)<=x/\x<a+nl):=hx;omega)
   refine⟨W',?_,w2.congr fun x=>?_⟩
   ·rw[show((k:Int)+1)=((k+1:Nat):Int) by omega,w1,Dz,NW SB used _ 112 (by omega),fu]
   ·unfold eu
    constructor
    ·rintro(h3|h3|h3)
     ·exact .inl h3
     ·omega
     ·omega
    ·rintro(h3|h3|h3)
     ·exact .inl h3
     ·omega
     ·omega
end Go.Gv.F
namespace Go.Gv.F
open Go.Gv
theorem Zvl {u:Nat} (h:u<=1792):vB (u:Int)=(((u+6)/7:Nat):Int):=by
 unfold vB nM;rw[ah (show(u:Int)>=0 by omega),ah (show(u:Int)<=1792 by omega),wZ,cond_true,Zd (x:=(u:Int)+7) (by omega) (by omega),Zd (x:=(u:Int)+7-1) (by omega) (by omega),show((u:Int)+7-1)=((u+6:Nat):Int) by omega,show(((u+6:Nat):Int).tdiv 7)=(((u+6)/7:Nat):Int)from rfl];exact Zd (by omega) (by omega)
theorem MW (a n i:Nat) (h:i<n):(Zs a n)[i]? =some ((a+i:Nat):Int):=by
 unfold Zs;rw[gB,nS h];rfl
theorem Zvi (a n i:Nat) (h:i<n):(Zs a n).getD i 0=((a+i:Nat):Int):=by
 rw[bM,MW a n i h];rfl
theorem Zy8 (SB:Nat->bF) (used n:Nat) (h:used<=n):gY SB used 0 n=(List.range used).map SB:=by
 have e:n=used+(n-used):=by omega
 rw[e,Ih,NW SB used (0+used) (n-used) (by omega),dZ];unfold gY;rw[List.filter_eq_self.2 fun k hk=>?_,Ev];rw[List.mem_range'_1]at hk;rw[bx];omega
theorem Zrg (gens At free:List Int) (f i:Nat) (x:bF) (h:(ja gens At free f)[i]? =some x):x=if f+i<gens.length then dY gens At free (f+i)else lr:=by
 have hi:i<7:=by
  have:=(cw.1 h).1;unfold ja at this;rw[sB]at this;exact this
 unfold ja at h;rw[NA _ _ _ _ _ _ hi,ah hi,cI]at h;by_cases hf:f+i<gens.length
 ·rw[ah hf,cond_true]at h
  rw[aF hf];exact(vi h).symm
 ·rw[ao hf,cond_false]at h
  rw[ay hf];exact(vi h).symm
theorem Zwt {gens At free:List Int} (hR: ∀k,k<gens.length->nK (dY gens At free k)=true) (f:Nat):(iL (og (ja gens At free f))).length=64/\ZG (iL (og (ja gens At free f)))= .leaf (ja gens At free f)/\(ja gens At free f).length=7:=by
 have hl:(ja gens At free f).length=7:=by unfold ja;exact sB _ _ _ _ _
 obtain⟨s,h1,h2,h3⟩:=ZsH hl (gm.2 fun x hx=>by
  obtain⟨i,hi⟩:=List.mem_iff_getElem?.1 hx;rw[Zrg _ _ _ _ _ _ hi];split
  ·rename_i h
   exact hR _ h
  ·rfl)
 rw[h1];exact⟨h2,h3,hl⟩
theorem Zw5 {K:bz} {gens free:List Int} {m:bd} {v:aU} {P:Nat->Prop}
  (hF:Fin K.img (gX gens free m).2) (hb:(gX gens free m).2.next<=K.m) (h3:K.m<=3072) (h2:2<=m.next) (hg:gens.length<=1792)
  (hR: ∀k,k<gens.length->nK (dY gens m.At free k)=true) (hu:K.sup.used=(gens.length:Int)) (hf:K.sup.cA=((gX gens free m).1:Int))
  (hS: ∀k,k<gens.length->sI K.sup (dY gens m.At free k)=true) (hM:Mem K.m v.W P) (hP: ∀b,eu m.next (gX gens free m).2.next b->¬P b):
  ∃W',na K v=some { v with W:=W',ax:=v.ax++(List.range gens.length).map (dY gens m.At free) } /\Mem K.m W' (fun b=>P b\/eu m.next (gX gens free m).2.next b):=by
 obtain⟨SB,uk⟩: ∃SB,dY gens m.At free=SB:=⟨_,rfl⟩;have kZ:=Zwt hR;by_cases h0:gens.length=0
 ·have:gens=[]:=r8.1 h0
  subst this;have e:gX [] free m=(0,m):=rfl;rw[e];unfold na;rw[hu];refine⟨v.W,?_,hM.congr fun b=>?_⟩
  ·simp
  ·unfold eu
   constructor
   ·exact .inl
   ·rintro(h|h)
    ·exact h
    ·simp only at h
     omega
 ·obtain⟨l1,l2,l3,l4⟩:=Zu5 (gens:=gens) (free:=free) (B:=K.img) gens.length 0 [] m (by omega) (by omega) (fun g=>(kZ g).1)
  have mD:=Ex.fg gens free gens.length 0 [] m;obtain⟨R,hR0⟩: ∃R,fg gens free gens.length 0 [] m=R:=⟨_,rfl⟩;rw[hR0]at l1 l2 l3 l4 mD;rw[fu,se]at l1;rw[se]at l2 l4;obtain⟨nl,wA⟩: ∃nl,(gens.length+6)/7=nl:=⟨_,rfl⟩;rw[wA]at l1 l2 l4;have CP:R.1.length=nl:=by rw[l1,ZU]
  obtain⟨T,PR⟩: ∃T,fW R.1 16 0 (List.replicate 16 0) R.2=T:=⟨_,rfl⟩;have nF:=Ex.fW R.1 16 0 (List.replicate 16 0) R.2;have e:gX gens free m=(T.2.next,eD T.2 (iL (kb T.1))):=by
   unfold gX;rw[hR0];simp only;rw[show Nat.beq R.1.length 0=false by
    rw[CP];cases nl with
    |zero=>omega
    |succ k=>rfl,cond_false,PR]
  rw[e]at hF hb hf hP⊢;have hn:(eD T.2 (iL (kb T.1))).next=T.2.next+1:=rfl;rw[hn]at hb hP;simp only at hF hf;rw[PR]at nF;have hle:=nF.le;have Je:=hF.back (Ex.put _ _);have hFR:=Je.back nF;have eI: ∀j,(∀k∈iD R.1 j,k=0\/2<=k/\k<3072)/\(iD R.1 j).length=16/\∀i y,(iD R.1 j)[i]? =some y->y=if 16*j+i<nl then((m.next+(16*j+i):Nat):Int)else 0:=fun j=>by
   have hlen:(iD R.1 j).length=16:=by unfold iD;exact xz _ _ _
   have dM: ∀i y,(iD R.1 j)[i]? =some y->y=if 16*j+i<nl then((m.next+(16*j+i):Nat):Int)else 0:=fun i y hy=>by
    have hi:i<16:=by
     have:=(cw.1 hy).1;omega
    unfold iD at hy;rw[NU _ _ _ _ hi,ah hi,cI,CP]at hy;by_cases hj:16*j+i<nl
    ·rw[ah hj,cond_true,l1,Zvi _ _ _ hj]at hy
     rw[aF hj];exact(vi hy).symm
    ·rw[ao hj,cond_false]at hy
     rw[ay hj];exact(vi hy).symm
   refine⟨fun k hk=>?_,hlen,dM⟩;obtain⟨i,hi⟩:=List.mem_iff_getElem?.1 hk;rw[dM i k hi];split
   ·right;omega
   ·exact .inl rfl
  have eK: ∀j,(iL (kb (iD R.1 j))).length=64/\ZG (iL (kb (iD R.1 j)))= .cA (iD R.1 j):=fun j=>by
   obtain⟨s,a1,a2,a3⟩:=Ztf (eI j).2.1 (eI j).1;rw[a1];exact⟨a2,a3⟩
  obtain⟨f1,f2,f3,f4,f5⟩:=Zrb (leaves:=R.1) (B:=K.img) 16 0 (List.replicate 16 0) R.2 (by omega) (by omega) (by simp) (by omega) (fun g=>(eK g).1) (fun j _=>by
   rw[bM,y9];split<;>rfl)
  rw[PR]at f1 f2 f3 f4 f5;rw[CP,l2]at f1;rw[se]at f1;have f5:=f5 Je;have l4:=l4 hFR;rw[CP,l2]at f5;have T7:(∀k∈T.1,k=0\/2<=k/\k<3072)/\∀i y,T.1[i]? =some y->y=if 16*i<nl then((m.next+nl+i:Nat):Int)else 0:=by
   have dM: ∀i y,T.1[i]? =some y->y=if 16*i<nl then((m.next+nl+i:Nat):Int)else 0:=fun i y hy=>by
    have:=f4 i;rw[bM,hy,ay (sc i),CP,l2,se]at this;exact this
   refine⟨fun k hk=>?_,dM⟩;obtain⟨i,hi⟩:=List.mem_iff_getElem?.1 hk;have Js:i<16:=by
    have:=(cw.1 hi).1;omega
   rw[dM i k hi];split
   ·right;omega
   ·exact .inl rfl
  obtain⟨s,a1,a2,a3⟩:=Ztf f3 T7.1;have hs:iL (kb T.1)=s:=by rw[a1];rfl
  rw[hs]at hF;have Dh:=hF.put a2 (by omega);have hSI:Iz K SB gens.length:=⟨hu,fun k hk=>by rw[<-uk];exact hS k hk⟩;have hLA:NX K SB gens.length m.next nl:=⟨h2,by omega,by omega,fun t ht=>by
   have:=l4 t ht;rw[dy]at this;rw[this];refine⟨_,(kZ _).2.1,(kZ _).2.2,fun i x hx=>?_⟩;rw[Zrg _ _ _ _ _ _ hx,uk]⟩
  have hFA:Zxo K m.next nl (m.next+nl):=⟨aA _,by omega,fun j hj=>by
   have:=f5 j (by omega) hj;rw[se]at this;rw[this];exact⟨_,(eK j).2,(eI j).2.1,(eI j).2.2⟩⟩
  obtain⟨t1,t2⟩:=z6 hM (k:=T.2.next) (by omega) (by omega) (hP _ ⟨by omega,by omega⟩);rw[Dh,a3]at t1;obtain⟨W',w1,w2⟩:=NH hSI hLA hFA T.1 0 { v with W:=c9 K.m v.W ((T.2.next:Nat):Int) } (fun b=>P b\/b=T.2.next) (by omega) (by omega) (fun i y hy=>by
   rw[dy];exact T7.2 i y hy) t2 (fun x hx=>by
   rintro(h|h)
   ·refine hP x ?_ h
    unfold eu at hx⊢;omega
   ·unfold eu at hx
    omega)
  refine⟨W',?_,w2.congr fun b=>?_⟩
  ·unfold na
   rw[hf,t1,hu,cg.2 (show((gens.length:Nat):Int)≠0 by omega),cond_false];simp only;rw[Zvl hg,wA,show(0:Int)=((0:Nat):Int)from rfl,w1,f3,Zy8 SB _ _ (by omega),uk]
  ·unfold eu
   rw[hn];constructor
   ·rintro((h|h)|h)
    ·exact .inl h
    ·exact .inr (by omega)
    ·exact .inr (by omega)
   ·rintro(h|h)
    ·exact .inl (.inl h)
    ·by_cases ry:b=T.2.next
     ·exact .inl (.inr ry)
     ·exact .inr (by omega)
end Go.Gv.F
namespace Go.Gv.F
open Go.Gv
def Pl (m m':bd) (e:bc):Prop:=(m.next:Int)<=m'.At.getD e.slot.toNat 0/\m'.At.getD e.slot.toNat 0<(m'.next:Int)
structure NS (n:Nat) (es:List bc):Prop where
 nd:(es.map (·.slot.toNat)).Nodup
 lt: ∀e∈es,e.slot.toNat<n
theorem NS.sub {n:Nat} {es gE:List bc} (h:NS n es) (k:gE.Sublist es):NS n gE:=⟨List.Nodup.sublist (k.map _) h.nd,fun e he=>h.lt e (k.subset he)⟩
theorem NS.two {n:Nat} {A B:List bc} (h:NS n (A++B)) {e:bc} (he:e∈A): ∀e'∈B,e'.slot.toNat≠e.slot.toNat:=fun e' nx hc=>by
 have:=h.nd;rw[dD,gO]at this;exact this.2.2 _ (dE.2 ⟨e,he,rfl⟩) _ (dE.2 ⟨e',nx,rfl⟩) hc.symm
theorem Zx4 {j:Nat} {es:List bc} {m:bd} (hl:es.length=2^j) (hn:NS m.At.length es) (hk: ∀e∈es.drop 1,Pl m (bI j es m).2 e): ∀e∈es,Pl m (eO j es m).2 e:=by
 cases es with
 |nil=>intro e he;cases he
 |cons e0 t=>
  intro e he;have hex:=(Ex.kids j (e0::t) m).le;have fK:(bI j (e0::t) m).2.At.length=m.At.length:=(qZ j (e0::t) m).2.1;have h1:(eO j (e0::t) m).2.next=(bI j (e0::t) m).2.next+1:=rfl;have h2:(eO j (e0::t) m).2.At=(bI j (e0::t) m).2.At.set e0.slot.toNat ((bI j (e0::t) m).2.next:Int):=rfl;unfold Pl;rw[h1,h2];rcases cd.1 he with rfl|he
  ·rw[bM,fV (by rw[fK];exact hn.lt e nT)]
   simp only[sg];omega
  ·obtain⟨k1,k2⟩:=hk e he
   have bp:e0.slot.toNat≠e.slot.toNat:=fun hc=>NS.two (A:=[e0]) (B:=t) hn nT e he hc.symm
   rw[bM,ec bp,<-bM];omega
theorem Oz: ∀(j:Nat) (es:List bc) (m:bd),2^j<=es.length->NS m.At.length (es.take (2^j))->∀e∈(es.take (2^j)).drop 1,Pl m (bI j es m).2 e
 |0,es,m,_,_,e,he=>by
  cases es with
  |nil=>cases he
  |cons a t=>cases he
 |j+1,es,m,hl,hn,e,he=>by
  have e2:2^(j+1)=2^j+2^j:=by rw[mS];omega
  have hp:=mT j;obtain⟨iQ,sV⟩: ∃iQ,(es.drop (2^j)).take (2^j)=iQ:=⟨_,rfl⟩;obtain⟨m1,eC⟩: ∃m1,(bI j es m).2=m1:=⟨_,rfl⟩;have hk:(bI (j+1) es m).2=(eO j iQ m1).2:=by rw[<-eC,<-sV];rfl
  have fY:es.take (2^(j+1))=es.take (2^j)++iQ:=by rw[e2,Bt,sV]
  have lN:iQ.length=2^j:=by rw[<-sV,cn,ej];omega
  have mD:Ex m m1:=by rw[<-eC];exact Ex.kids j es m
  have nF:=Ex.tree j iQ m1;have le1:=mD.le;have le2:=nF.le;have fK:m1.At.length=m.At.length:=by rw[<-eC];exact(qZ j es m).2.1
  rw[fY]at hn he;rw[hk];rw[Et (by rw[cn];omega)]at he;rcases de.1 he with he|he
  ·have h1:=Oz j es m (by omega) (hn.sub (List.sublist_append_left _ _)) e he
   rw[eC]at h1;unfold Pl at h1⊢;rw[N6 j iQ m1 _ (hn.two (r9 he))];omega
  ·have mw:NS m1.At.length iQ:=by rw[fK];exact hn.sub (List.sublist_append_right _ _)
   have fZ:iQ.take (2^j)=iQ:=cF (by omega);have h1:=Zx4 lN mw (fun e he=>by
    have:=Oz j iQ m1 (by omega) (by rw[fZ];exact mw) e (by rw[fZ];exact he);exact this) e he
   unfold Pl at h1⊢;omega
theorem ZzE {j:Nat} {es:List bc} {m:bd} (hl:es.length=2^j) (hn:NS m.At.length es): ∀e∈es,Pl m (eO j es m).2 e:=
 have ht:es.take (2^j)=es:=cF (by omega)
 Zx4 hl hn fun e he=>Oz j es m (by omega) (by rw[ht];exact hn) e (by rw[ht];exact he)
theorem Nk {cnt:Nat} : ∀(c k:Nat) (hs:List Int) (rest:List bc) (m:bd),k+c=12->rest.length=cnt/2^k*2^k->cnt<4096->NS m.At.length rest->∀e∈rest,Pl m (dc cnt c k hs rest m).2 e
 |0,k,hs,rest,m,hk,hr,hc,_,e,he=>by
  have hk:k=12:=by omega
  subst hk;rw[Nat.div_eq_of_lt (show cnt<2^12 by omega)]at hr;rw[r8.1 (show rest.length=0 by omega)]at he;cases he
 |c+1,k,hs,rest,m,hk,hr,hc,hn,e,he=>by
  have hp:=mT k;have pz:=Zwc cnt k;unfold dc;cases hb:dG cnt k with
  |false=>
   rw[cond_false];unfold dG at hb;rw[j6]at hb;rw[ay hb]at pz;exact Nk c (k+1) hs rest m (by omega) (by omega) hc hn e he
  |true=>
   rw[cond_true];unfold dG at hb;rw[bx]at hb;rw[aF hb]at pz;have fY:rest=rest.take (2^k)++rest.drop (2^k):=(nU _ _).symm;have aj:(rest.take (2^k)).length=2^k:=by rw[cn];omega
   obtain⟨T,hT⟩: ∃T,eO k (rest.take (2^k)) m=T:=⟨_,rfl⟩;have mD:Ex m T.2:=by rw[<-hT];exact Ex.tree k _ m
   have fK:T.2.At.length=m.At.length:=by rw[<-hT];exact(Hx k _ m).2.1
   have nF:=Ex.dc cnt c (k+1) (hs.set k (T.1:Int)) (rest.drop (2^k)) T.2;have le1:=mD.le;have le2:=nF.le;simp only;rw[hT];rw[fY]at he hn;rcases de.1 he with he|he
   ·have h1:=ZzE aj (hn.sub (List.sublist_append_left _ _)) e he
    rw[hT]at h1;unfold Pl at h1⊢;rw[B0 cnt c (k+1) _ _ T.2 _ (hn.two he)];omega
   ·have h1:=Nk c (k+1) (hs.set k (T.1:Int)) (rest.drop (2^k)) T.2 (by omega) (by rw[ej];omega) hc (by rw[fK];exact hn.sub (List.sublist_append_right _ _)) e he
    unfold Pl at h1⊢;omega
theorem Zug: ∀(l:List cJ) (cX:List Int) (m:bd),(∀h∈l,h.aK.length<4096)->NS m.At.length (l.map (·.aK)).flatten->∀e∈(l.map (·.aK)).flatten,Pl m (eG l cX m).2 e
 |[],_,_,_,_,e,he=>by cases he
 |x::r,cX,m,h4,hn,e,he=>by
  rw[gK,mQ]at hn he;obtain⟨T,hT⟩: ∃T,roots x.aK m=T:=⟨_,rfl⟩;have mD:Ex m T.2:=by rw[<-hT];exact Ex.dc _ 12 0 _ _ m
  have fK:T.2.At.length=m.At.length:=by rw[<-hT];exact(BT x.aK m).2.1
  obtain⟨m2,dH⟩: ∃m2,eD T.2 (oF ⟨x.name,x.aK.length,T.1⟩)=m2:=⟨_,rfl⟩;have nF:Ex T.2 m2:=by rw[<-dH];exact Ex.put _ _
  have TH:m2.At=T.2.At:=by rw[<-dH];rfl
  have hE:eG (x::r) cX m=eG r (cX++[(T.2.next:Int)]) m2:=by
   unfold eG;simp only;rw[hT,dH];cases r<;>rfl
  have DH:=Ex.eG r (cX++[(T.2.next:Int)]) m2;have le1:=mD.le;have le2:=nF.le;have le3:=DH.le;rw[hE];rcases de.1 he with he|he
  ·have h1:=Nk (cnt:=x.aK.length) 12 0 (List.replicate 12 0) x.aK m rfl (by simp) (h4 x nT) (hn.sub (List.sublist_append_left _ _)) e he
   have h2:Pl m T.2 e:=by rw[<-hT];exact h1
   unfold Pl at h2⊢;rw[HV r _ m2 _ (hn.two he),TH];omega
  ·have h1:=Zug r (cX++[(T.2.next:Int)]) m2 (fun h hh=>h4 h (oP _ hh)) (by rw[TH,fK];exact hn.sub (List.sublist_append_right _ _)) e he
   unfold Pl at h1⊢;omega
end Go.Gv.F
namespace Go.Gv.F
open Go.Gv
theorem BS {k:Int} : ∀(l:List Int) (c:Int),k∉l->jR k l c=c
 |[],_,_=>rfl
 |[_],_,_=>rfl
 |a::b::r,c,h=>by
  unfold jR;rw[cg.2 fun e=>h (by rw[e];exact nT),cond_false];exact BS (b::r) c fun e=>h (oP _ e)
theorem HQ {k:Int} (R:List Int) (c:Int): ∀(A:List Int),(A++k::R).Nodup->jR k (A++k::R) c=match R with
  |[]=>c
  |b::_=>af (b+1)
 |[],h=>by
  cases R with
  |nil=>rfl
  |cons b r=>
   rw[fu]at h⊢;unfold jR;rw[fH,cond_true];exact BS _ _ (qS.1 h).1
 |[a],h=>by
  have hn:=(qS.1 h).1;show jR k (a::k::R) c=_;unfold jR;rw[cg.2 fun e=>hn (by rw[e];exact nT),cond_false];exact HQ R c [] (qS.1 h).2
 |a::b::A,h=>by
  have hn:=(qS.1 h).1;show jR k (a::b::(A++k::R)) c=_;unfold jR;rw[cg.2 fun e=>hn (by rw[e];simp),cond_false];exact HQ R c (b::A) (qS.1 h).2
structure OY (K:bz) (gens At free:List Int) (used:Nat):Prop where
 u:K.sup.used=(used:Int)
 le:used<=1792
 ok: ∀k∈free,0<=k/\k<(used:Int)/\At.getD k.toNat 0=0/\gens.getD k.toNat 0<K.sup.g
 nd:free.Nodup
theorem Zo5 {K:bz} {gens At free:List Int} {used:Nat} (hI:OY K gens At free used): ∀(R A:List Int) (fl:List Bool) (v:aU) (f:Nat),free=A++R->R.length<f->v.ax=(List.range used).map (dY gens At free)->fl.length=used->
  (∀j,j<used->fl.getD j false=decide ((j:Int)∈A))->∃xR,mZ K f fl (rj R) v=some (xR, { v with free:=v.free++R })/\∀j,j<used->xR.getD j false=decide ((j:Int)∈free)
 |[],A,fl,v,f,hA,hf,_,_,eI=>by
  obtain⟨f,rfl⟩: ∃g,f=g+1:=⟨f-1,by simp at hf;omega⟩;rw[dZ]at hA;refine⟨fl,?_,fun j hj=>by rw[hA];exact eI j hj⟩;unfold mZ rj;rw[fH,cond_true,dZ]
 |k::r,A,fl,v,f,hA,hf,hv,VN,eI=>by
  obtain⟨f,rfl⟩: ∃g,f=g+1:=⟨f-1,by simp at hf;omega⟩;have hk:k∈free:=by rw[hA];simp
  obtain⟨k0,k1,k2,k3⟩:=hI.ok k hk;have hle:=hI.le;obtain⟨n,rfl⟩: ∃n:Nat,k=(n:Int):=⟨k.toNat,by omega⟩;rw[aY]at k2 k3;have cT:=hI.nd;rw[hA]at cT;have hh:rj ((n:Int)::r)=(n:Int)+1:=by
   show af ((n:Int)+1)=_;exact Zd (by omega) (by omega)
  have wF:v.ax[n]? =some (dY gens At free n):=by
   rw[hv,gB,nS (by omega)];rfl
  have Di:(dY gens At free n).live=false:=by
   show(!(At.getD n 0==0))=false;rw[k2];rfl
  have Ql:(dY gens At free n).gen=gens.getD n 0:=rfl;have hblk:(dY gens At free n).block=rj r:=by
   show jR (n:Int) free (At.getD n 0)=_;rw[k2];have h1:=HQ (k:=(n:Int)) r 0 A cT;rw[<-hA]at h1;rw[h1];cases r<;>rfl
  have VM:fl.getD n false=false:=by
   rw[eI n (by omega)];refine ao fun h=>?_
   exact(gO.1 cT).2.2 _ h _ nT rfl
  obtain⟨xR,h1,h2⟩:=Zo5 hI r (A++[(n:Int)]) (fl.set n true) { v with free:=v.free++[(n:Int)] } f (by rw[hA,dB];rfl) (by simp at hf;omega) hv (by rw[ju];exact VN) (fun j hj=>by
   rw[bM];by_cases Qy:n=j
   ·subst Qy
    rw[fV (by omega)];simp
   ·rw[ec Qy,<-bM,eI j hj]
    have:(j:Int)≠(n:Int):=by omega
    simp[this])
  refine⟨xR,?_,h2⟩;unfold mZ;rw[hh,cg.2 (show((n:Int)+1)≠0 by omega),cond_false,hI.u,ah (show(n:Int)+1<=(used:Int) by omega),cond_true,show((n:Int)+1-1).toNat=n by omega,wF];simp only;rw[Di,Ql,ah k3,VM];simp only[bu,cond_true];rw[hblk,show(n:Int)+1-1=(n:Int) by omega,h1,dB];rfl
theorem ZoM {K:bz} : ∀(l:List bF) (fl:List Bool),(∀i x,l[i]? =some x->Ac K (fl.getD i false) x=true)->rk K fl l=true
 |[],_,_=>rfl
 |x::r,fl,h=>by
  unfold rk;rw[h 0 x rfl,cI];refine ZoM r _ fun i y hy=>?_
  have:=h (i+1) y (by simpa using hy);rw[bM,nR,<-bM,qT 1 i];exact this
theorem ZxP {K:bz} {gens At free:List Int} {used:Nat} (hI:OY K gens At free used) {v:aU} (hv:v.ax=(List.range used).map (dY gens At free)) (hf:K.sup.free=rj free) (hl:free.length<=used)
  (hr: ∀j,j<used->At.getD j 0≠0\/gens.getD j 0=K.sup.g\/(j:Int)∈free):qk K v=some { v with free:=v.free++free } :=by
 obtain⟨fl,h1,h2⟩:=Zo5 hI free [] (List.replicate used false) v (used+1) rfl (by omega) hv (by simp) (fun j hj=>by
  rw[bM,y9];split<;>simp)
 unfold qk xF;rw[hI.u,aY,hf,h1];simp only;rw[ZoM,cond_true];intro i x hx;rw[hv,gB]at hx;have hi:i<used:=by
  rcases eJ i used with h|h
  ·exact h
  ·rw[dL (by simp;omega)]at hx
   cases hx
 rw[nS hi]at hx;cases hx;unfold Ac;rcases hr i hi with h|h|h
 ·have:(dY gens At free i).live=true:=by
   show(!(At.getD i 0==0))=true;rw[cg.2 h];rfl
  rw[this];rfl
 ·have:(dY gens At free i).gen=K.sup.g:=h
  rw[this,fH];cases(dY gens At free i).live<;>rfl
 ·rw[h2 i hi,ah h]
  generalize (bif (dY gens At free i).live then true else(dY gens At free i).gen==K.sup.g)=b;cases b<;>rfl
end Go.Gv.F
namespace Go.Gv.F
open Go.Gv
structure ZxD (x:cK) (bG:Int) (B:List UInt8):Prop where
 ok:vq (cZ x bG)
 room:(cV x).2.next+jb x<=x.blocks.toNat
 fin:Fin B (jf (jJ x) (jb x) 0 (cV x).2)
 len:B.length=64*x.blocks.toNat
theorem Zns {x:cK} {bG place:Int} {B:List UInt8} {s:eX} (hb:sG x bG place=some (B,s)):s=cZ x bG/\ZxD x bG B:=by
 unfold sG at hb;cases hc:(decide (((jJ x).length:Int)>x.blocks)|| !jz (cZ x bG))with
 |true=>rw[hc]at hb;cases hb
 |false=>
  rw[hc,cond_false]at hb;obtain⟨h1,h2⟩:=kJ.1 hc;rw[j6]at h1;have hS:vq (cZ x bG):=(BU _).1 (by rw[<-Bool.not_eq_false'];exact h2);have wI:(jJ x).length=(cV x).2.next+jb x:=ZU _ _;have jU:x.blocks=(cZ x bG).blocks:=rfl;obtain⟨g1,g2,_⟩:=sr hS.g;rw[<-jU]at g1 g2;have hex:=Ex.all x;have hC:(jf (jJ x) (jb x) 0 (cV x).2).B.length=64*x.blocks.toNat:=by
   rw[hex.len];unfold fP ZZ;simp
  have hp:=Zwg hS;have hk:=Zmc (jJ x) (jb x) 0 (cV x).2;obtain⟨C,hCd⟩: ∃C,jf (jJ x) (jb x) 0 (cV x).2=C:=⟨_,rfl⟩;rw[hCd]at hb hC hk;cases hb;have hn:(place%2).toNat<2:=by omega
  have hlen:(mH C.B (64*(place%2).toNat) (vF (cZ x bG))).length=C.B.length:=by
   unfold mH;simp only[aZ,cn,ej];omega
  refine⟨rfl,hS,by omega,?_,by rw[hlen,hC]⟩;rw[hCd];refine⟨by rw[hC,hk.2];omega,fun k h2 h3=>?_⟩;exact Zwp (by omega) hp (by omega)
theorem ZvT (n k:Nat):dI (List.replicate n 0) k=false:=by
 unfold dI dG;rw[bM,y9];split<;>simp
theorem ZvZ {m:Nat} (h:16<=m):Mem m (oJ m [0,1]) (fun b=>b=0\/b=1):=by
 have h0:(List.replicate ((m+63)/64) 0).length=(m+63)/64:=by simp
 have h1:(c9 m (List.replicate ((m+63)/64) 0) 0).length=(m+63)/64:=by rw[sv];exact h0
 refine⟨by show(c9 m (c9 m _ 0) 1).length=_;rw[sv];exact h1,zW (zW fun w hw=>by rw[List.mem_replicate]at hw;omega),fun b=>?_⟩;show dI (c9 m (c9 m (List.replicate ((m+63)/64) 0) 0) 1) b=true↔_;rw[vD h1,vD h0,ZvT];have m0:gV m 0=true:=by unfold gV;rw[ah (by omega),ah (by omega)];rfl
 have m1:gV m 1=true:=by unfold gV;rw[ah (by omega),ah (by omega)];rfl
 rw[m0,m1];simp
structure KD (x:cK) (A:List Int) (n:Nat):Prop where
 live: ∀e∈Zo x,2<=A.getD e.slot.toNat 0/\A.getD e.slot.toNat 0<(n:Int)
 dead: ∀k:Nat,(k:Int)∉(Zo x).map (·.slot)->A.getD k 0=0
theorem ZsI {x:cK} (hm:jx x):NS x.gens.length (Zo x):=by
 have cT:=(gO.1 hm.nodup).1;have rG: ∀e∈Zo x,0<=e.slot/\e.slot<(x.gens.length:Int):=fun e he=>hm.range _ (ve _ (dE.2 ⟨e,he,rfl⟩))
 refine⟨?_,fun e he=>by have:=rG e he;omega⟩;have:(Zo x).map (·.slot.toNat)=((Zo x).map (·.slot)).map Int.toNat:=by rw[xb];rfl
 rw[this];unfold List.Nodup at cT⊢;rw[List.pairwise_map];refine List.Pairwise.imp_of_mem (fun {a b} ha hb cR=>?_) cT;obtain⟨e,he,rfl⟩:=dE.1 ha;obtain⟨e',nx,rfl⟩:=dE.1 hb;have h1:=rG e he;have h2:=rG e' nx;omega
theorem Zy3 {x:cK} (hm:jx x):(Zo x).length<=x.gens.length:=by
 have:=D1 x.gens.length ((Zo x).map (·.slot)) (gO.1 hm.nodup).1 fun k hk=>hm.range k (ve _ hk)
 rwa [lV]at this
theorem Zt1 {x:cK} (hm:jx x) {h:cJ} (hh:h∈x.av):h.aK.length<=x.gens.length:=by
 refine eZ ?_ (Zy3 hm);obtain⟨A,B,hAB⟩:=List.append_of_mem hh;unfold Zo;rw[hAB];simp;omega
theorem U3 {x:cK} (hm:jx x) (h4:x.gens.length<=1792):KD x (eG x.av [] (fP x)).2.At (eG x.av [] (fP x)).2.next:=by
 refine⟨fun e he=>?_,fun k hk=>?_⟩
 ·have:=Zug x.av [] (fP x) (fun h hh=>by have:=Zt1 hm hh;omega) (by
   have hl:(fP x).At.length=x.gens.length:=by unfold fP;simp
   rw[hl];exact ZsI hm) e he
  exact this
 ·rw[HV]
  ·unfold fP
   simp only;rw[bM,y9];split<;>rfl
  ·intro e he hc
   have:=hm.range e.slot (ve _ (dE.2 ⟨e,he,rfl⟩));exact hk (dE.2 ⟨e,he,by omega⟩)
theorem MS {x:cK} (hm:jx x) {A:List Int} {n:Nat} (hA:KD x A n) (hn:n<=3072) (hg:x.g<=4294967295) (h4:x.gens.length<=1792) {k:Nat} (hk:k<x.gens.length):
  nK (dY x.gens A x.free k)=true/\(1<=x.gens.getD k 0/\x.gens.getD k 0<=x.g)/\(A.getD k 0=0->x.gens.getD k 0=x.g->(dY x.gens A x.free k).block=0)/\(A.getD k 0≠0->(dY x.gens A x.free k).block=A.getD k 0)/\(A.getD k 0≠0↔(k:Int)∈(Zo x).map (·.slot)):=by
 have Ql:1<=x.gens.getD k 0/\x.gens.getD k 0<=x.g:=by
  rw[bM,ba hk];exact hm.gens _ (gC hk)
 have cL:A.getD k 0≠0↔(k:Int)∈(Zo x).map (·.slot):=by
  constructor
  ·intro h
   rcases Classical.em ((k:Int)∈(Zo x).map (·.slot))with h1|h1
   ·exact h1
   ·exact absurd (hA.dead k h1) h
  ·intro h
   obtain⟨e,he,P7⟩:=dE.1 h;have:=(hA.live e he).1;rw[show e.slot.toNat=k by omega]at this;omega
 have hblk:(dY x.gens A x.free k).block=jR (k:Int) x.free (A.getD k 0):=rfl;have Di:(dY x.gens A x.free k).live= !(A.getD k 0==0):=rfl;have sX:(dY x.gens A x.free k).gen=x.gens.getD k 0:=rfl;have cT:=hm.nodup;have gr:A.getD k 0≠0->(dY x.gens A x.free k).block=A.getD k 0:=fun h=>by
  rw[hblk];refine BS _ _ fun hf=>?_
  exact(gO.1 cT).2.2 _ (cL.1 h) _ hf rfl
 have VO:A.getD k 0=0->x.gens.getD k 0=x.g->(dY x.gens A x.free k).block=0:=fun h h1=>by
  rw[hblk,BS _ _ fun hf=>?_,h];have:=hm.low _ hf;unfold fB at this;rw[aY]at this;omega
 refine⟨?_,Ql,VO,gr,cL⟩;unfold nK;rw[sX,Di,ao (show ¬x.gens.getD k 0<0 by omega),ao (show ¬x.gens.getD k 0>4294967295 by omega)];by_cases h0:A.getD k 0=0
 ·have h1:0<=(dY x.gens A x.free k).block/\(dY x.gens A x.free k).block<=1792:=by
   rw[hblk,h0];rcases Classical.em ((k:Int)∈x.free)with hf|hf
   ·obtain⟨P,R,CO⟩:=List.append_of_mem hf
    have h2:=HQ (k:=(k:Int)) R 0 P (by rw[<-CO];exact(gO.1 cT).2.1);rw[<-CO]at h2;rw[h2];cases R with
    |nil=>exact⟨yZ 0,by decide⟩
    |cons b r=>
     have:=hm.range b (zd _ (by rw[CO];simp));simp only;rw[Zd (by omega) (by omega)];omega
   ·rw[BS _ _ hf]
    exact⟨yZ 0,by decide⟩
  rw[h0];simp only[yY,bu,cI,fH,bg,cond_false];rw[ah (show(dY x.gens A x.free k).block>=0 from h1.1),ah h1.2,cg.2 (show x.gens.getD k 0≠0 by omega)];rfl
 ·have h1:=gr h0
  obtain⟨e,he,P7⟩:=dE.1 (cL.1 h0);have h2:=hA.live e he;rw[show e.slot.toNat=k by omega]at h2;rw[cg.2 h0,h1];unfold lI;rw[ah (show x.gens.getD k 0>0 by omega),ah (show A.getD k 0>=2 from h2.1),ah (show A.getD k 0<=3071 by omega)];rfl
end Go.Gv.F
namespace Go.Gv.F
open Go.Gv
theorem Zvv (x:cK):(Zo x).length=iC x.av:=by
 unfold Zo iC;rw[List.length_flatten,xb];rfl
theorem Zwh {x:cK} (hm:jx x) {A:List Int} {n:Nat} (hA:KD x A n) (hn:n<=3072) (hg:x.g<=4294967295) (h4:x.gens.length<=1792):(((List.range x.gens.length).map (dY x.gens A x.free)).filter (·.live)).length=iC x.av:=by
 rw[List.filter_map,lV,<-Zvv];have cT:=(ZsI hm).nd;have:((List.range x.gens.length).filter ((fun s:bF=>s.live)∘dY x.gens A x.free)).Perm ((Zo x).map (·.slot.toNat)):=by
  rw[List.perm_ext_iff_of_nodup (List.Nodup.sublist List.filter_sublist List.nodup_range) cT];intro k;rw[xc,jd];show(k<x.gens.length/\(!(A.getD k 0==0))=true)↔_;constructor
  ·rintro⟨h1,h2⟩
   have h3:=(MS hm hA hn hg h4 h1).2.2.2.2.1 (by
    intro h0;rw[h0]at h2;cases h2)
   obtain⟨e,he,P7⟩:=dE.1 h3;exact dE.2 ⟨e,he,by omega⟩
  ·intro h
   obtain⟨e,he,P7⟩:=dE.1 h;have rG:=hm.range _ (ve _ (dE.2 ⟨e,he,rfl⟩));have h1:k<x.gens.length:=by omega
   refine⟨h1,?_⟩;have h3:=(MS hm hA hn hg h4 h1).2.2.2.2.2 (dE.2 ⟨e,he,by omega⟩);rw[cg.2 h3];rfl
 rw[this.length_eq,lV]
structure OX (x:cK):Prop where
 k: ∀e∈Zo x, -9223372036854775808<=e.key/\e.key<=9223372036854775807
 v: ∀e∈Zo x, -9223372036854775808<=e.value/\e.value<=9223372036854775807
theorem ZyM {x:cK} (hm:jx x) (hr:OX x) {bG:Int} {B:List UInt8} (dN:vq (cZ x bG)) (wE:(cV x).2.next<=x.blocks.toNat) (F2:Fin B (cV x).2) (hlen:x.blocks.toNat<=B.length/64):
  ∃v,lz (oM B (cZ x bG))=some (some v)/\uZ (cZ x bG) v=x/\Mem x.blocks.toNat v.W (fun b=>b<(cV x).2.next):=by
 obtain⟨g1,g2,g3,g4,g5,g6⟩:=sr hm.xS;have cL:=hm.bX;have h4:x.gens.length<=1792:=by omega
 obtain⟨t,ht⟩: ∃t,eG x.av [] (fP x)=t:=⟨_,rfl⟩;have hd:iw x=(match p8 t.1 with
  |none=>(0,t.2)
  |some s=>(t.2.next,eD t.2 s)):=by rw[<-ht];rfl
 have P5:(iw x).2.At=t.2.At:=by
  rw[hd];cases p8 t.1<;>rfl
 have hdx:Ex t.2 (iw x).2:=by
  rw[hd];cases p8 t.1 with
  |none=>exact Ex.refl _
  |some s=>exact Ex.put _ _
 have uL:Ex (fP x) t.2:=by rw[<-ht];exact Ex.eG _ _ _
 have h2x:Ex (iw x).2 (cV x).2:=Ex.gX x.gens x.free _;have F1:=F2.back h2x;have Ft:=F1.back hdx;have m02:(fP x).next=2:=rfl;have l0:=uL.le;have l1:=hdx.le;have l2:=h2x.le;have hA:=U3 hm h4;rw[ht]at hA;obtain⟨K,hK⟩: ∃K,oM B (cZ x bG)=K:=⟨_,rfl⟩;have Km:K.m=x.blocks.toNat:=by rw[<-hK];rfl
 have Ki:K.img=B:=by rw[<-hK];rfl
 have Ks:K.sup=cZ x bG:=by rw[<-hK];rfl
 have Ku:K.sup.used=(x.gens.length:Int):=by rw[Ks];rfl
 have Kg:K.sup.g=x.g:=by rw[Ks];rfl
 have CQ: ∀k,k<x.gens.length->_:=fun k hk=>MS hm hA (by omega) g6 h4 (k:=k) hk
 obtain⟨SB,uk⟩: ∃SB,dY x.gens t.2.At x.free=SB:=⟨_,rfl⟩;have hW:lz K=some (rW K):=by
  unfold lz;rw[Ks,(BU _).2 dN,cond_true,Ki,ah (show(cZ x bG).blocks<=((B.length/64:Nat):Int) by
   show x.blocks<=_;omega),cond_true]
 obtain⟨W1,p1,p2⟩:=Zw5 (K:=K) (gens:=x.gens) (free:=x.free) (m:=(iw x).2) (v:=rX K.m) (P:=fun b=>b=0\/b=1) (by rw[Ki];exact F2) (by rw[Km];show(cV x).2.next<=_;omega) (by omega) (by omega) h4 (fun k hk=>by rw[P5];exact(CQ k hk).1) Ku (by rw[Ks];rfl)
  (fun k hk=>by
   rw[P5];obtain⟨_,q2,q3,q4,q5⟩:=CQ k hk;unfold sI;have sX:(dY x.gens t.2.At x.free k).gen=x.gens.getD k 0:=rfl;have Di:(dY x.gens t.2.At x.free k).live= !(t.2.At.getD k 0==0):=rfl;rw[sX,Di,Kg,ah (show x.gens.getD k 0>=1 from q2.1),cond_true,ah q2.2,cI];by_cases h0:t.2.At.getD k 0=0
   ·rw[h0]
    by_cases uw:x.gens.getD k 0=x.g
    ·rw[q3 h0 uw]
     rw[show((0:Int)==0)=true from rfl];cases decide (x.gens.getD k 0<x.g)<;>rfl
    ·rw[ah (show x.gens.getD k 0<x.g by omega)]
     rfl
   ·rw[cg.2 h0]
    rfl) (ZvZ (by omega)) (fun b hb=>by
   have h1:=hb.1;omega)
 rw[P5,uk]at p1;have dH:(gX x.gens x.free (iw x).2).2.next=(cV x).2.next:=rfl;rw[dH]at p2;obtain⟨v1,oA⟩: ∃v1,({ rX K.m with W:=W1,ax:=(rX K.m).ax++(List.range x.gens.length).map SB } :aU)=v1:=⟨_,rfl⟩;rw[oA]at p1;have v1s:v1.ax=(List.range x.gens.length).map SB:=by rw[<-oA];rfl
 have eK:OY K x.gens t.2.At x.free x.gens.length:=⟨Ku,h4,fun k hk=>by
  have rG:=hm.range k (zd _ hk);refine⟨rG.1,rG.2,hA.dead _ fun h=>?_,by rw[Kg];exact hm.low k hk⟩;rw[Int.toNat_of_nonneg rG.1]at h;exact(gO.1 hm.nodup).2.2 _ h _ hk rfl,(gO.1 hm.nodup).2.1⟩
 have q1:=ZxP eK (v:=v1) (by rw[v1s,uk]) (by rw[Ks];rfl) (D1 _ _ (gO.1 hm.nodup).2.1 fun k hk=>hm.range k (zd _ hk)) (fun j hj=>by
  rcases Classical.em (t.2.At.getD j 0=0)with h0|h0
  ·right
   rcases Classical.em ((j:Int)∈x.free)with h1|h1
   ·exact .inr h1
   ·left
    have yk:(j:Int)∉(Zo x).map (·.slot):=fun h=>(CQ j hj).2.2.2.2.2 h h0
    have h2:=hm.rest j hj (fun h=>(de.1 h).elim yk h1);unfold fB at h2;rw[aY]at h2;rw[Kg];have:=(CQ j hj).2.1.2;omega
  ·exact .inl h0)
 obtain⟨v2,qG⟩: ∃v2,({ v1 with free:=v1.free++x.free } :aU)=v2:=⟨_,rfl⟩;rw[qG]at q1;have Sz:v2.ax=(List.range x.gens.length).map SB:=by rw[<-qG];exact v1s
 have Eg:v2.av=[]:=by rw[<-qG,<-oA];rfl
 have v2g:v2.gens=[]:=by rw[<-qG,<-oA];rfl
 have v2f:v2.free=x.free:=by rw[<-qG,<-oA];rfl
 have v2n:v2.nodes=0:=by rw[<-qG,<-oA];rfl
 have v2W:Mem K.m v2.W (fun b=>(b=0\/b=1)\/eu (iw x).2.next (cV x).2.next b):=by rw[<-qG,<-oA];exact p2
 have np: ∀h∈x.av,sj K v2.ax t.2.At h.aK/\mg h.name=true/\h.aK.length<4096:=fun h hh=>by
  have rH: ∀e∈h.aK,e∈Zo x:=fun e he=>List.mem_flatten.2 ⟨h.aK,dE.2 ⟨h,hh,rfl⟩,he⟩
  have uE:=(hm.right h hh).2;refine⟨⟨fun e he=>?_,?_,Zow uE⟩,(hm.right h hh).1,by have:=Zt1 hm hh;omega⟩
  ·have he:=rH e he
   have rG:=hm.range _ (ve _ (dE.2 ⟨e,he,rfl⟩));have hk:e.slot.toNat<x.gens.length:=by omega
   have gr:=hA.live e he;have sX:=hm.gen e he;unfold fB at sX;obtain⟨_,q2,q3,q4,q5⟩:=CQ _ hk;rw[sX]at q2;refine⟨rG.1,by rw[Ku];exact rG.2,by omega,⟨q2.1,by omega⟩,hr.k e he,hr.v e he,?_,?_⟩
   ·rw[Sz,gB,nS hk,<-uk]
    have bp:t.2.At.getD e.slot.toNat 0≠0:=by omega
    show some (dY x.gens t.2.At x.free e.slot.toNat)=_;have e1:(dY x.gens t.2.At x.free e.slot.toNat).live=true:=by
     show(!(t.2.At.getD e.slot.toNat 0==0))=true;rw[cg.2 bp];rfl
    have e2:(dY x.gens t.2.At x.free e.slot.toNat).gen=e.gen:=sX;have e3:=q4 bp;generalize dY x.gens t.2.At x.free e.slot.toNat=Z at e1 e2 e3;cases Z;simp only at e1 e2 e3;rw[e1,e2,e3]
   ·have:t.2.At.length=x.gens.length:=by
     rw[<-ht];refine(zG x.av [] (fP x)).2.1.trans ?_;unfold fP;simp
    omega
  ·have:=(gO.1 hm.nodup).1
   obtain⟨P,R,CO⟩:=List.append_of_mem hh;unfold Zo at this;rw[CO,dD,gK,vb,mQ,dD,dD]at this;exact(gO.1 (gO.1 this).2.1).1
 have hQ: ∃v3,oa K v2=some v3/\Mem K.m v3.W (fun b=>b<(cV x).2.next)/\v3.av=x.av/\v3.ax=v2.ax/\v3.gens=[]/\v3.free=x.free/\v3.nodes=((iC x.av:Nat):Int):=by
  by_cases hh:x.av=[]
  ·have Q5:t=([],fP x):=by rw[<-ht,hh];rfl
   have eC:iw x=(0,fP x):=by rw[hd,Q5];rfl
   refine⟨v2,?_,v2W.congr fun b=>?_,by rw[Eg,hh],rfl,v2g,v2f,by rw[v2n,hh];rfl⟩
   ·unfold oa
    have:K.sup.dir=0:=by
     rw[Ks];show(((iw x).1:Nat):Int)=0;rw[eC];rfl
    rw[this];rfl
   ·rw[eC]
    have hle:(fP x).next<=(cV x).2.next:=by rw[eC]at l2;exact l2
    unfold eu;simp only;omega
  ·obtain⟨v',new,n1,n2,n3,n4,_⟩:=N9 (K:=K) (A:=t.2.At) x.av [] (fP x) { v2 with W:=(rX K.m).W } (fun b=>b=0\/b=1) (by rw[ht,Ki];exact Ft) (by rw[ht,Km];omega) (by omega) (by omega) (by
    rw[<-ht];exact(zG x.av [] (fP x)).2.1.symm) np (gO.1 hm.nodup).1 (by rw[Eg];exact hm.order) (fun e _=>by rw[ht]) (ZvZ (by omega)) (fun b hb=>by have:=hb.1;omega)
   rw[ht,fu]at n1;rw[ht]at n4;have Ym:=hm.CK;have ow:1<=x.av.length:=List.length_pos_iff.2 hh;obtain⟨sd,d1,d2,d3⟩:=ZyT (l:=new) (by omega) (by omega) (fun k hk=>by have:=n4 k hk;omega) n3;have eC:iw x=(t.2.next,eD t.2 sd):=by rw[hd,n1,d1]
   have TG:(iw x).2.next=t.2.next+1:=by rw[eC];rfl
   have Dh:gU K.img t.2.next=sd:=by
    rw[Ki];rw[eC]at F1;exact F1.put d2 (by omega)
   obtain⟨t1,t2⟩:=z6 v2W (k:=t.2.next) (by omega) (by omega) (by
    unfold eu;omega)
   rw[Dh,d3]at t1;obtain⟨v3,YA,a1,a2,a3,a4,a5,a6,a7,a8,a9,a10,a11⟩:=N9 (K:=K) (A:=t.2.At) x.av [] (fP x) { v2 with W:=c9 K.m v2.W ((t.2.next:Nat):Int) } _ (by rw[ht,Ki];exact Ft) (by rw[ht,Km];omega) (by omega) (by omega) (by
    rw[<-ht];exact(zG x.av [] (fP x)).2.1.symm) np (gO.1 hm.nodup).1 (by rw[Eg];exact hm.order) (fun e _=>by rw[ht]) t2 (fun b hb=>by
    rw[ht]at hb;unfold eu at hb⊢;omega)
   rw[ht,fu,n1]at a1;subst a1;rw[ht]at a6;refine⟨v3,?_,a6.congr fun b=>?_,by rw[a7,Eg];rfl,a8,by rw[a9,v2g],by rw[a10,v2f],by rw[a11];simp only;rw[v2n];omega⟩
   ·unfold oa
    have VG:K.sup.dir=((t.2.next:Nat):Int):=by
     rw[Ks];show(((iw x).1:Nat):Int)=_;rw[eC]
    rw[VG,cg.2 (show((t.2.next:Nat):Int)≠0 by omega),cond_false,t1];simp only;have a5:qc K v2.av.length new _=some v3:=a5;rw[show v2.av.length=0 by rw[Eg];rfl]at a5;exact a5
   ·unfold eu
    rw[TG];rw[TG]at l2;omega
 obtain⟨v3,r1,r2,r3,r4,r5,r6,r7⟩:=hQ;have VC:yE v3=iC x.av:=by
  unfold yE;rw[r4,Sz,<-uk];exact Zwh hm hA (by omega) g6 h4
 refine⟨qJ v3,?_,?_,by rw[<-Km];exact r2⟩
 ·rw[hK,hW]
  unfold rW;rw[p1];simp only;rw[q1];simp only;rw[r1];simp only;rw[VC,r7,ah rfl,cond_true]
 ·have VS:(v3.ax.map (·.gen))=x.gens:=by
   rw[r4,Sz,xb];refine mP fun i=>?_
   rw[gB];rcases eJ i x.gens.length with h|h
   ·rw[nS h,ba h]
    show some ((SB i).gen)=_;rw[<-uk];show some (x.gens.getD i 0)=_;rw[bM,ba h];rfl
   ·rw[dL (by simpa using h),dL h]
    rfl
  show(⟨x.blocks,x.bX,x.g,v3.av,v3.gens++v3.ax.map (·.gen),v3.free⟩:cK)=x;rw[VS,r3,r5,r6];rfl
theorem Zyb {x:cK} (hm:jx x) (hr:OX x) {bG place:Int} {B:List UInt8} {s:eX} (hb:sG x bG place=some (B,s)):
  ∃v,lz (oM B s)=some (some v)/\uZ s v=x/\Mem x.blocks.toNat v.W (fun b=>b<(cV x).2.next):=by
 obtain⟨rfl,hP⟩:=Zns hb;have:=hP.room;have:=hP.len;exact ZyM hm hr hP.ok (by omega) (hP.fin.back (Ex.jf _ _ _ _)) (by omega)
end Go.Gv.F
