/- Lists without twins. -/
import Derived.Test.YtegglibipjjblaaGreatDoorGvDef
import Derived.Test.YtegglibipjjblaaGreatDoorGvZMe
import Derived.Test.YtegglibipjjblaaGreatDoorGvZMd
import Derived.Test.YtegglibipjjblaaGreatDoorGvZMc
import Derived.Test.YtegglibipjjblaaGreatDoorGvMOk2
namespace Go.Gv.F
open Go.Gv
theorem Pz {α:Type} [DecidableEq α]: ∀ {l m:List α},l.Nodup->(∀x∈l,x∈m)->l.length<=m.length
 |[],m,_,_=>bH _
 |a::l,m,hn,hs=>by
  rw[qo]at hn;have ha:=hs a (by simp);have hle:=List.length_erase_of_mem ha;have tN:=List.length_pos_of_mem ha;have:=Pz (m:=m.erase a) hn.2 fun y hy=>(List.mem_erase_of_ne (fun e':y=a=>hn.1 (by rw[<-e'];exact hy))).2 (hs y (by simp[hy]))
  rw[dF];omega
end Go.Gv.F
namespace Go.Gv.F
open Go.Gv
theorem PR {k:Nat} (h:k<256):(nZ (k:Int)).toNat=k:=by
 unfold nZ;show((k:Int)%256).toNat%256=k;omega
theorem Cu (n:Nat):Zy (ZR n)=true:=by
 unfold Zy ZR;rw[gv];intro x hx;rw[List.eq_of_mem_replicate hx];rfl
theorem ZyS {b:List UInt8} (h:b.length<=56):(dK b 56).length=56:=by
 unfold dK ZR;rw[bg,ph];omega
theorem Zy9 {k t:Int} {b:List UInt8} (h:b.length<=56):(ko k t b).length=60:=by
 unfold ko;rw[bg,ZyS h];rfl
theorem uz {k t:Int} {b:List UInt8} (h:b.length<=56):(fu k t b).length=64:=by
 unfold fu;rw[bg,Zq,Zy9 h]
theorem Aw {k t:Nat} {b:List UInt8} (hk0:0<k) (hk:k<256) (ht:t<256) (h:b.length<=56):gj (fu k t b)=some (k,t,dK b 56):=by
 have hl:(fu k t b).length=64:=uz h;have h4:(bR (lB (ko k t b)) 4).length=4:=Zq _ _;have Bv:(fu k t b).drop 4=ko k t b:=by
  unfold fu;rw[Fu (by omega),mZ (by omega),fe]
 have zc:(fu k t b).take 4=bR (lB (ko k t b)) 4:=by
  unfold fu;rw[zW (by omega),cA (by omega)]
 have hg: ∀j,(fu k t b).getD (4+j) 0=(ko k t b).getD j 0:=fun j=>by
  rw[bJ,bJ,<-Bv,lR]
 have g4:(fu k t b).getD 4 0=nZ k:=hg 0;have g5:(fu k t b).getD 5 0=nZ t:=hg 1;have d6:((fu k t b).drop 6).take 2=[0,0]:=by
  have:(fu k t b).drop 6=(ko k t b).drop 2:=by rw[<-Bv,iK]
  rw[this];rfl
 have d8:(fu k t b).drop 8=dK b 56:=by
  have:(fu k t b).drop 8=(ko k t b).drop 4:=by rw[<-Bv,iK]
  rw[this];rfl
 have hr:uM (fu k t b)=true:=by
  unfold uM;rw[hl,g4,d6,Bv,zc,Pw];have h1:(nZ (k:Int)==0)=false:=by
   rw[cx];intro e;have:=congrArg UInt8.toNat e;rw[PR hk]at this;simp at this;omega
  have hc:=Jx (ko k t b);rw[h1,Ca (by omega)];simp[Zy]
 unfold gj;rw[hr,cond_true,g4,g5,d8,PR hk,PR ht]
theorem Qn (A C:List UInt8) (v n:Nat):rd (A++(bR v n++C)) A.length n=v%256^n:=by
 unfold rd;rw[qm,zW (by rw[Zq];exact ay _),cA (by rw[Zq];exact ay _),Pw]
theorem CZ {l A C:List UInt8} {v n k:Nat} (hl:l=A++(bR v n++C)) (hk:A.length=k) (hv:v<256^n) (sr:v<9223372036854775808):dS l k n=(v:Int):=by
 subst hl;subst hk;unfold dS;rw[Qn,Ca hv];exact Zb (by omega) (by omega)
theorem Zse {l A C:List UInt8} {v:Int} {k:Nat} (hl:l=A++(bR (bS v) 8++C)) (hk:A.length=k) (hv: -9223372036854775808<=v/\v<=9223372036854775807):dS l k 8=v:=by
 subst hl;subst hk;unfold dS;have h8:(256:Nat)^8=18446744073709551616:=by decide
 have aj:=ow v;rw[Qn,Ca (by omega)];have e:af ((bS v:Nat):Int)=v:=by
  unfold bS;show IntKind.wrap .i64 _=v;rw[IntKind.wrap_i64];omega
 exact e
theorem CE {v:Int} (h0:0<=v) (h1:v<9223372036854775808):((bS v:Nat):Int)=v:=by unfold bS;omega
theorem ZvO (l:List Int) {i:Nat} (h:i<l.length):c8 l=c8 (l.take i)++(bR (bS l[i]) 2++c8 (l.drop (i+1))):=by
 have e:l=l.take i++l[i]::l.drop (i+1):=by
  conv=>lhs;rw[<-lj i l,gT h]
 conv=>lhs;rw[e]
 unfold c8;rw[dL,vR,gM,mo]
theorem IT {A D b:List UInt8} (l:List Int) (hl: ∀k∈l,0<=k/\k<65536) (hb:b=A++(c8 l++D)) {n:Nat} (hA:A.length=n):(List.range l.length).map (fun j=>dS b (n+2*j) 2)=l:=by
 refine na fun j=>?_
 rw[gL];by_cases hj:j<l.length
 ·rw[og hj,ba hj]
  have hk:=hl _ (fK hj);have hs:=ZvO l hj;generalize l[j]=k at hk hs;have s2:=CE (v:=k) (by omega) (by omega);have e:dS b (n+2*j) 2=((bS k:Nat):Int):=by
   refine CZ (A:=A++c8 (l.take j)) (C:=c8 (l.drop (j+1))++D) ?_ ?_ (show bS k<65536 by omega) (by omega)
   ·rw[hb,hs,dD,dD,dD]
   ·rw[bg,ZS,bW]
    omega
  exact congrArg some (e.trans s2)
 ·rw[dT (by rw[Fv];omega),dT (by omega)]
  rfl
theorem O0 {x:jL} (hk:x.kids.length<=12):gj (nV x)=some (1,x.kids.length,dK (rq x) 56)/\(rq x).length=24+2*x.kids.length:=by
 have hl:(rq x).length=24+2*x.kids.length:=by
  unfold rq;simp only[bg,Zq,ZS]
 exact⟨Aw (by decide) (by decide) (by omega) (by omega),hl⟩
theorem Zyk {k:Int} (h:vE k=false):2<=k/\k<3072:=by
 unfold vE at h;rw[kZ,j3,j3]at h;omega
theorem Zxc {A B C D E Z b:List UInt8} (h:b=A++B++C++D++E++Z):b=A++(B++(C++(D++(E++Z))))/\b=(A++B)++(C++(D++(E++Z)))/\b=(A++B++C)++(D++(E++Z))/\b=(A++B++C++D)++(E++Z):=by
 subst h;simp only[dD,and_self]
theorem ZyV {x:jL} (hr:mF x=true) (R8: -9223372036854775808<=x.bI.key/\x.bI.key<=9223372036854775807) (hval: -9223372036854775808<=x.bI.value/\x.bI.value<=9223372036854775807):tt (nV x)=some x:=by
 have jj:=hr;unfold mF at hr;rw[aH,hJ,hJ]at hr;simp only[kZ,j3]at hr;obtain⟨⟨r1,r2,r3,r4,r5⟩,r6⟩:=hr;obtain⟨ho,hl⟩:=O0 (x:=x) (by omega);have bz:Zy ((dK (rq x) 56).drop (24+2*x.kids.length))=true:=by
  unfold dK;rw[<-hl,qm];exact Cu _
 have hS:dK (rq x) 56=bR (bS x.bI.key) 8++bR (bS x.bI.value) 8++bR (bS x.bI.slot) 4++bR (bS x.bI.gen) 4++c8 x.kids++ZR (56-(rq x).length):=rfl;have l1:(bR (bS x.bI.key) 8).length=8:=Zq _ _;have l2:(bR (bS x.bI.value) 8).length=8:=Zq _ _;have l3:(bR (bS x.bI.slot) 4).length=4:=Zq _ _;have l4:(bR (bS x.bI.gen) 4).length=4:=Zq _ _;obtain⟨S1,S2,S3,S4⟩:=Zxc hS;have hb:wz (dK (rq x) 56) x.kids.length=x:=by
  generalize dK (rq x) 56=b at S1 S2 S3 S4;have k0:dS b 0 8=x.bI.key:=Zse (A:=[]) S1 rfl R8;have k8:dS b 8 8=x.bI.value:=Zse (A:=bR (bS x.bI.key) 8) S1 l1 hval;have s0:=CE (v:=x.bI.slot) (by omega) (by omega);have s1:=CE (v:=x.bI.gen) (by omega) (by omega);have k16:dS b 16 4=((bS x.bI.slot:Nat):Int):=CZ S2 (by rw[bg];omega) (show bS x.bI.slot<4294967296 by omega) (by omega);have k20:dS b 20 4=((bS x.bI.gen:Nat):Int):=CZ S3 (by rw[bg,bg];omega) (show bS x.bI.gen<4294967296 by omega) (by omega);have kk:qH b x.kids.length=x.kids:=IT x.kids (fun k hk=>by
   have R9:vE k=false:=by
    have:=(List.any_eq_false.1 r6) k hk;simpa using this
   have:=Zyk R9;omega) S4 (by rw[bg,bg,bg];omega)
  unfold wz;rw[k0,k8,k16,k20,kk,s0,s1]
 unfold tt;rw[ho];simp only;rw[hb,jj,bz,ah (show x.kids.length<=12 by omega)];simp
theorem Jb {l:List UInt8} {k t:Nat} {b:List UInt8} (h:gj l=some (k,t,b)) (hk:k≠1):tt l=none:=by
 unfold tt;rw[h];simp only;rw[ao hk];rfl
theorem Nj {l:List UInt8} {k t:Nat} {b:List UInt8} (h:gj l=some (k,t,b)) (hk:k≠2):qE l=none:=by
 unfold qE;rw[h];simp only;rw[ao hk];rfl
theorem ZnS {l:List UInt8} {k t:Nat} {b:List UInt8} (h:gj l=some (k,t,b)) (hk:k≠3):tj l=none:=by
 unfold tj;rw[h];simp only;rw[ao hk];rfl
theorem ZsC {l:List UInt8} {k t:Nat} {b:List UInt8} (h:gj l=some (k,t,b)) (hk:k≠5):rO l=none:=by
 unfold rO;rw[h];simp only;rw[ao hk];rfl
theorem P4: ∀(l:List bL) (k:Nat),eZ k l=2^k*eZ 0 l
 |[],k=>by simp[eZ]
 |x::r,k=>by
  rw[eZ,eZ,P4 r (k+1),P4 r 1,nb];cases x.live with
  |true=>rw[cond_true,cond_true,Nat.mul_add,zZ,di,Nat.mul_assoc]
  |false=>rw[cond_false,cond_false,dj,dj,Nat.mul_assoc]
theorem Zuz (x:bL) (r:List bL):eZ 0 (x::r)=(bif x.live then 1 else 0)+2*eZ 0 r:=by
 rw[eZ,P4 r 1]
theorem ZwJ: ∀(l:List bL) (j:Nat) (x:bL),l[j]? =some x->dM (eZ 0 l) j=x.live
 |[],j,x,h=>by simp at h
 |y::r,0,x,h=>by
  simp only[gV,cX]at h;subst h;rw[Zuz];unfold dM;rw[zZ,Nat.div_one];cases y.live with
  |true=>rw[cond_true,ah (by omega)]
  |false=>rw[cond_false,ao (by omega)]
 |y::r,j+1,x,h=>by
  rw[Zuz,<-ZwJ r j x (by simpa using h)];unfold dM;rw[Nat.pow_succ',<-LU];have:((bif y.live then 1 else 0)+2*eZ 0 r)/2=eZ 0 r:=by
   cases y.live with
   |true=>rw[cond_true];omega
   |false=>rw[cond_false];omega
  rw[this]
theorem ZuA (l:List bL) {i:Nat} (h:i<l.length):ZW l=ZW (l.take i)++(bR (bS l[i].gen) 4++(bR (bS l[i].block) 4++ZW (l.drop (i+1)))):=by
 have e:l=l.take i++l[i]::l.drop (i+1):=by
  conv=>lhs;rw[<-lj i l,gT h]
 conv=>lhs;rw[e]
 rw[NX,ZW,dD]
theorem Zy6 {l:List bL} (hl:l.length=7) (hr: ∀x∈l,0<=x.gen/\x.gen<4294967296/\0<=x.block/\x.block<4294967296) {b:List UInt8} (hb:b=ZW l):kF b (eZ 0 l) 7=l:=by
 unfold kF;refine na fun j=>?_
 rw[gL];by_cases hj:j<7
 ·have oH:j<l.length:=by omega
  rw[og hj,ba oH];have ht:=ZwJ l j l[j] (ba oH);have hs:=ZuA l oH;obtain⟨g0,g1,b0,b1⟩:=hr _ (fK oH);generalize l[j]=x at ht hs g0 g1 b0 b1;have s1:=CE (v:=x.gen) (by omega) (by omega);have s2:=CE (v:=x.block) (by omega) (by omega);have kl:(ZW (l.take j)).length=8*j:=by rw[CL,bW];omega
  have e1:dS b (8*j) 4=((bS x.gen:Nat):Int):=CZ (hb.trans hs) kl (show bS x.gen<4294967296 by omega) (by omega);have e2:dS b (8*j+4) 4=((bS x.block:Nat):Int):=CZ (A:=ZW (l.take j)++bR (bS x.gen) 4) (C:=ZW (l.drop (j+1))) (by rw[hb,hs,dD]) (by rw[bg,Zq,kl]) (show bS x.block<4294967296 by omega) (by omega);refine congrArg some ?_;unfold uL;rw[ht,e1,e2,s1,s2]
 ·rw[dT (by rw[Fv];omega),dT (by omega)]
  rfl
theorem Zn0 {x:bL} (h:nX x=true):ZM x=true/\0<=x.gen/\x.gen<4294967296/\0<=x.block/\x.block<4294967296:=by
 unfold nX at h;rw[aH,hJ,kZ,j3,j3]at h;obtain⟨⟨h1,h2⟩,h3⟩:=h;unfold ZM kG;cases hl:x.live with
 |true=>
  rw[hl,cond_true,aH,bc]at h3;obtain⟨h4,h5⟩:=h3;unfold me at h5;rw[aH,bc,bc]at h5;refine⟨?_,by omega,by omega,by omega,by omega⟩;rw[cond_true,ah (show x.gen>=1 by omega),ah (show x.block>=2 by omega),cond_true,cond_true,ah (show x.gen<=4294967295 by omega),ah (show x.block<=3071 by omega)];rfl
 |false=>
  rw[hl,cond_false,aH,aH,bc,bc]at h3;obtain⟨⟨h4,h5⟩,h6⟩:=h3;refine⟨?_,by omega,by omega,by omega,by omega⟩;rw[cond_false,ah (show x.gen>=0 by omega),ah (show x.block>=0 by omega),cond_true,cond_true,ah (show x.gen<=4294967295 by omega),ah (show x.block<=1792 by omega),cI,cI];cases hb:(x.block==0)with
  |true=>rw[Bool.or_true]
  |false=>
   rw[hb,zM,hJ,cx]at h6;rw[ah (show x.gen>0 by omega)];rfl
theorem ZuO {l:List bL} (hl:l.length=7) (hr:l.all nX=true): ∃s,ot l=some s/\s.length=64/\ZK s= .leaf l:=by
 have Eh: ∀x∈l,nX x=true:=fun x hx=>gv.1 hr x hx
 have df:(ZW l).length=56:=by rw[CL,hl]
 have p8:=Pv 0 l;rw[hl]at p8;have h7:2^(0+7)=128:=by decide
 have ho:gj (fu 2 (eZ 0 l:Nat) (ZW l))=some (2,eZ 0 l,dK (ZW l) 56):=Aw (k:=2) (by decide) (by decide) (by omega) (by omega);have hf:dK (ZW l) 56=ZW l:=by
  unfold dK ZR;rw[df,qw];exact ez _
 rw[hf]at ho;have lI:=Zy6 hl (fun x hx=>(Zn0 (Eh x hx)).2) rfl;refine⟨_,by unfold ot;rw[hr,cond_true],uz (by omega),?_⟩;have hg:qE (fu 2 (eZ 0 l:Nat) (ZW l))=some l:=by
  unfold qE;rw[ho];simp only;rw[lI,ah (show eZ 0 l<128 by omega)];have:l.all ZM=true:=gv.2 fun x hx=>(Zn0 (Eh x hx)).1
  rw[this];simp
 unfold ZK;rw[Jb ho (by decide),hg]
end Go.Gv.F
namespace Go.Gv.F
open Go.Gv
theorem Zwh {x:jL} (hr:mF x=true) (R8: -9223372036854775808<=x.bI.key/\x.bI.key<=9223372036854775807) (hval: -9223372036854775808<=x.bI.value/\x.bI.value<=9223372036854775807):ZK (nV x)= .node x/\(nV x).length=64:=by
 have hk:x.kids.length<=12:=by
  unfold mF at hr;rw[aH,hJ,hJ]at hr;simp only[kZ,j3]at hr;omega
 refine⟨?_,uz (by have:=(O0 hk).2;omega)⟩;unfold ZK;rw[ZyV hr R8 hval]
theorem Zu6 {l:List Int} (hl:l.length=16) (hr: ∀k∈l,k=0\/2<=k/\k<3072): ∃s,kH l=some s/\s.length=64/\ZK s= .cE l:=by
 have iD:(c8 l).length=32:=by rw[ZS,hl]
 have ca:(l.all fun k=>k==0||me k)=true:=gv.2 fun k hk=>by
  rcases hr k hk with rfl|h
  ·rfl
  ·unfold me
   rw[ah (show k>=2 by omega),ah (show k<=3071 by omega),Bool.and_self,Bool.or_true]
 have hrf:AE l=true:=gv.2 fun k hk=>by
  rcases hr k hk with rfl|h
  ·rfl
  ·unfold kG
   rw[ah (show k>=2 by omega),ah (show k<=3071 by omega)];exact Bool.or_true _
 have ho:gj (fu 3 ((0:Nat):Int) (c8 l))=some (3,0,dK (c8 l) 56):=Aw (k:=3) (t:=0) (by decide) (by decide) (by decide) (by omega);have lI:gD (dK (c8 l) 56) 16=l:=by
  have:=IT (A:=[]) (D:=ZR (56-(c8 l).length)) (b:=dK (c8 l) 56) l (fun k hk=>by have:=hr k hk;omega) rfl rfl;rw[hl]at this;unfold gD;simpa using this
 have bz:Zy ((dK (c8 l) 56).drop 32)=true:=by
  unfold dK;rw[<-iD,qm];exact Cu _
 refine⟨_,by unfold kH;rw[ca,cond_true],uz (by omega),?_⟩;have hg:tj (fu 3 0 (c8 l))=some l:=by
  unfold tj;rw[show(0:Int)=((0:Nat):Int)from rfl,ho];simp only;rw[lI,bz,hrf];rfl
 have ho:gj (fu 3 0 (c8 l))=some (3,0,dK (c8 l) 56):=ho;unfold ZK;rw[Jb ho (by decide),Nj ho (by decide),hg]
theorem ZxR {x:pH} (hl:x.cY.length=12) (hm:x.mask<4096) (hn:mG x.name=true) (xf:x.name.length<=24) (hh: ∀i,i<12->qX x.mask i (x.cY.getD i 0)=true) (hr: ∀k∈x.cY,0<=k/\k<3072):(oQ x).length=64/\ZK (oQ x)= .queue x:=by
 obtain⟨nm,mask,cY⟩:=x;simp only at hl hm hn xf hh hr;have iD:(c8 cY).length=24:=by rw[ZS,hl]
 have hS:(bR (bS mask) 4++c8 cY++nm).length=28+nm.length:=by
  rw[bg,bg,Zq,iD]
 have hu:bS ((mask:Nat):Int)=mask:=ZAr (by omega);have ho:gj (fu 5 nm.length (bR (bS mask) 4++c8 cY++nm))=some (5,nm.length,dK (bR (bS mask) 4++c8 cY++nm) 56):=Aw (k:=5) (by decide) (by decide) (by omega) (by omega);have hb:dK (bR (bS mask) 4++c8 cY++nm) 56=bR (bS mask) 4++(c8 cY++(nm++ZR (56-(28+nm.length)))):=by
  unfold dK;rw[hS];simp only[dD]
 obtain⟨b,pN⟩: ∃b,dK (bR (bS mask) 4++c8 cY++nm) 56=b:=⟨_,rfl⟩;rw[pN]at ho hb;have hq:wu b nm.length=⟨nm,mask,cY⟩:=by
  have h1:rd b 0 4=mask:=by
   have:=Qn [] (c8 cY++(nm++ZR (56-(28+nm.length)))) (bS mask) 4;rw[fe,<-hb]at this;rw[hu]at this;rw[show([]:List UInt8).length=0 from rfl]at this;rw[this,Ca (show mask<4294967296 by omega)]
  have h2:lz b 12=cY:=by
   have:=IT (A:=bR (bS mask) 4) (D:=nm++ZR (56-(28+nm.length))) (b:=b) cY (fun k hk=>by have:=hr k hk;omega) hb (Zq _ _);rw[hl]at this;exact this
  have h3:(b.drop 28).take nm.length=nm:=by
   rw[hb,<-dD,List.drop_left' (by rw[bg,Zq,iD]),vT]
  unfold wu;rw[h1,h2,h3]
 have bz:Zy (b.drop (28+nm.length))=true:=by
  rw[<-pN];unfold dK;rw[<-hS,qm];exact Cu _
 have Lb:wC ⟨nm,mask,cY⟩=true:=by
  unfold wC;rw[hn,ah hm,cI,cI];exact gv.2 fun i hi=>hh i (jE.1 hi)
 refine⟨uz (by show(bR (bS mask) 4++c8 cY++nm).length<=56;omega),?_⟩;have hg:rO (oQ ⟨nm,mask,cY⟩)=some ⟨nm,mask,cY⟩:=by
  unfold rO oQ;rw[ho];simp only;rw[hq,bz,Lb,ah xf];rfl
 have cK:gj (oQ ⟨nm,mask,cY⟩)=some (5,nm.length,b):=ho;unfold ZK;rw[Jb cK (by decide),Nj cK (by decide),ZnS cK (by decide),hg]
theorem Zqe {l:List Int} (h:l.Nodup) {i:Nat} (hi:i<l.length):l.getD i 0∉l.take i:=by
 rw[bJ,ba hi];intro hm;obtain⟨j,hj,e⟩:=BZ hm;rw[bW]at hj;rw[List.getElem_take]at e;have:=(List.getElem_inj (xs:=l) h (h₀:=by omega) (h₁:=hi)).1 e;omega
theorem ZAm {l:List Int} (h1:1<=l.length) (nE:l.length<=16) (hr: ∀k∈l,2<=k/\k<3072) (cZ:l.Nodup): ∃s,qG l=some s/\s.length=64/\ZK s= .dir l:=by
 have iD:=ZS l;have KB: ∀i,i<l.length->2<=l.getD i 0/\l.getD i 0<3072:=fun i hi=>by
  rw[bJ,ba hi];exact hr _ (fK hi)
 have hdo: ∀i,i<=l.length->qM l i=true:=by
  intro i;induction i with
  |zero=>intro _;rfl
  |succ i ih=>
   intro hi;have h2:=KB i (by omega);unfold qM me;rw[ih (by omega),ah (show l.getD i 0>=2 by omega),ah (show l.getD i 0<=3071 by omega),ao (Zqe cZ (show i<l.length by omega))];rfl
 have lI:AI l=true:=by
  unfold AI;rw[ah h1,ah nE,cI,cI];refine gv.2 fun i hi=>?_
  have hi:=jE.1 hi;have h2:=KB i hi;unfold rW;rw[ah (show l.getD i 0>=2 by omega),ah (show l.getD i 0<3072 by omega),ao (Zqe cZ hi)];rfl
 have ho:gj (fu 6 l.length (c8 l))=some (6,l.length,dK (c8 l) 56):=Aw (k:=6) (by decide) (by decide) (by omega) (by omega);have ra:gD (dK (c8 l) 56) l.length=l:=by
  have:=IT (A:=[]) (D:=ZR (56-(c8 l).length)) (b:=dK (c8 l) 56) l (fun k hk=>by have:=hr k hk;omega) rfl rfl;unfold gD;simpa using this
 have bz:Zy ((dK (c8 l) 56).drop (2*l.length))=true:=by
  unfold dK;rw[<-iD,qm];exact Cu _
 refine⟨_,by unfold qG;rw[ah h1,ah nE,hdo _ (ay _)];rfl,uz (by omega),?_⟩;have hg:AW (fu 6 l.length (c8 l))=some l:=by
  unfold AW;rw[ho];simp only;rw[ra,bz,lI,ah nE];rfl
 unfold ZK;rw[Jb ho (by decide),Nj ho (by decide),ZnS ho (by decide),ZsC ho (by decide),hg]
theorem OE {c:ZA} (h1:c.no<8) (h2:c.bT.length=48):(mD c).length=64/\sU (mD c)=some c:=by
 have ho:gj (mD c)=some (4,c.no,dK c.bT 56):=Aw (k:=4) (by decide) (by decide) (by omega) (by omega);refine⟨uz (by omega),?_⟩;have bz:Zy ((dK c.bT 56).drop 48)=true:=by
  unfold dK;rw[<-h2,qm];exact Cu _
 have ht:(dK c.bT 56).take 48=c.bT:=by
  unfold dK;rw[<-h2,vT]
 unfold sU;rw[ho];simp only;rw[bz,ht,ah h1];rfl
end Go.Gv.F
namespace Go.Gv.F
open Go.Gv
def dR (l:List UInt8) (k:Nat):List UInt8:=(l.drop (64*k)).take 64
structure Ex (m m':bp):Prop where
 len:m'.B.length=m.B.length
 le:m.next<=m'.next
 line: ∀k,k<m.next->dR m'.B k=dR m.B k
theorem Ex.refl (m:bp):Ex m m:=⟨rfl,ay _,fun _ _=>rfl⟩
theorem Ex.trans {a b c:bp} (h:Ex a b) (k:Ex b c):Ex a c:=⟨k.len.trans h.len,fw h.le k.le,fun j hj=>(k.line j (jH hj h.le)).trans (h.line j hj)⟩
theorem Ex.at {m m':bp} (h:Ex m m') (l:List Int):Ex m { m' with At:=l } :=⟨h.len,h.le,h.line⟩
theorem Zql {B s:List UInt8} {n k:Nat} (hn:64*n<=B.length) (hk:k<n):dR (jA B (64*n) s) k=dR B k:=by
 unfold dR jA;rw[Fu (by rw[bW];omega),zW (by rw[dt,bW];omega),List.drop_take,B4,j1 (by omega)]
theorem ZBz {B s:List UInt8} {n:Nat} (hn:64*n+64<=B.length) (hs:s.length=64):dR (jA B (64*n) s) n=s:=by
 unfold dR jA;have hl:(B.take (64*n)).length=64*n:=by rw[bW];omega
 rw[List.drop_append,hl,qw,mZ (by omega),fe,dE,cA (l:=s) (by omega),zW (by omega),cA (by omega)]
theorem Zxw {B s:List UInt8} {n k:Nat} (hn:64*n+64<=B.length) (hs:s.length=64) (hk:n<k):dR (jA B (64*n) s) k=dR B k:=by
 unfold dR jA;have hl:(B.take (64*n)).length=64*n:=by rw[bW];omega
 have jQ:(s.take (B.length-64*n)).length=64:=by rw[bW];omega
 rw[List.drop_append,hl,mZ (by omega),fe,List.drop_append,jQ,mZ (by omega),fe,iK,hs];rw[show 64*n+64+(64*k-64*n-64)=64*k by omega]
theorem Ex.put (m:bp) (s:List UInt8):Ex m (eJ m s):=by
 refine⟨pB m s,Nat.le_succ _,fun k hk=>?_⟩;unfold eJ;by_cases h:64*m.next+64<=m.B.length
 ·simp only[ah h,cond_true]
  exact Zql (by omega) hk
 ·simp only[ao h,cond_false]
theorem ZAc {m:bp} {s:List UInt8} (h:64*m.next+64<=m.B.length) (hs:s.length=64):dR (eJ m s).B m.next=s:=by
 unfold eJ;simp only[ah h,cond_true];exact ZBz h hs
theorem Ex.fin (es:List bm) (r:List Int×bp):Ex r.2 (ke es r).2:=by
 unfold ke;cases es with
 |nil=>exact .refl _
 |cons e t=>exact(Ex.put r.2 _).at _
theorem Ex.kids: ∀(j:Nat) (es:List bm) (m:bp),Ex m (bN j es m).2
 |0,_,m=> .refl m
 |j+1,es,m=>((Ex.kids j es m).trans (Ex.kids j _ _)).trans (Ex.fin _ _)
theorem Ex.tree (j:Nat) (es:List bm) (m:bp):Ex m (eX j es m).2:=(Ex.kids j es m).trans (Ex.fin _ _)
theorem Ex.dw (cnt:Nat): ∀(c k:Nat) (hs:List Int) (rest:List bm) (m:bp),Ex m (dw cnt c k hs rest m).2
 |0,_,_,_,m=> .refl m
 |c+1,k,hs,rest,m=>by
  unfold F.dw;cases dM cnt k with
  |true=>exact(Ex.tree k _ m).trans (Ex.dw cnt c _ _ _ _)
  |false=>exact Ex.dw cnt c _ _ _ _
theorem Ex.eO: ∀(l:List cN) (db:List Int) (m:bp),Ex m (eO l db m).2
 |[],_,m=> .refl m
 |_x::r,aaY,m=>((Ex.dw _ _ _ _ _ m).trans (Ex.put _ _)).trans (Ex.eO r _ _)
theorem Ex.mI (l:List cN) (m:bp):Ex m (mI l m).2:=by
 unfold F.mI;have:=Ex.eO l [] m;generalize F.eO l [] m=t at this;simp only;cases qG t.1 with
 |none=>exact this
 |some s=>exact this.trans (Ex.put _ _)
theorem Ex.fB (gens free:List Int): ∀(c f:Nat) (ls:List Int) (m:bp),Ex m (fB gens free c f ls m).2
 |0,_,_,m=> .refl m
 |c+1,f,ls,m=>by
  unfold F.fB;cases decide (f<gens.length)with
  |true=>exact(Ex.put m _).trans (Ex.fB gens free c _ _ _)
  |false=>exact .refl m
theorem Ex.gy (leaves:List Int): ∀(c i:Nat) (top:List Int) (m:bp),Ex m (gy leaves c i top m).2
 |0,_,_,m=> .refl m
 |c+1,i,top,m=>by
  unfold F.gy;cases decide (16*i<leaves.length)with
  |true=>exact(Ex.put m _).trans (Ex.gy leaves c _ _ _)
  |false=>exact .refl m
theorem Ex.ix (gens free:List Int) (m:bp):Ex m (ix gens free m).2:=by
 unfold F.ix;have:=Ex.fB gens free gens.length 0 [] m;generalize F.fB gens free gens.length 0 [] m=t at this;simp only;cases Nat.beq t.1.length 0 with
 |true=>exact this
 |false=>exact(this.trans (Ex.gy _ _ _ _ _)).trans (Ex.put _ _)
theorem Ex.iZ (used:List Int): ∀(c i:Nat) (m:bp),Ex m (iZ used c i m)
 |0,_,m=> .refl m
 |c+1,_i,m=>(Ex.put m _).trans (Ex.iZ used c _ _)
theorem Ex.all (x:cT):Ex (gf x) (F.iZ (jX x) (gH x) 0 (dY x).2):=((Ex.mI x.aB (gf x)).trans (Ex.ix x.gens x.free (iH x).2)).trans (Ex.iZ _ _ _ _)
end Go.Gv.F
namespace Go.Gv.F
open Go.Gv
theorem Zxa {x:eU} (h:uw x):x.az.length<=8:=by
 have hl:=h.len;have hg:=h.g;obtain⟨g1,g2,_⟩:=rM hg;unfold uC at hl;rw[hg,cond_true]at hl;unfold lN at hl;have e1:af (x.blocks+384)=x.blocks+384:=by
  obtain⟨m,hm⟩: ∃m:Nat,x.blocks=m:=⟨x.blocks.toNat,by omega⟩;rw[hm];exact Zb (by omega) (by omega)
 have e2:af (x.blocks+384-1)=x.blocks+384-1:=by
  obtain⟨m,hm⟩: ∃m:Nat,x.blocks=m:=⟨x.blocks.toNat,by omega⟩;rw[hm,show((m:Int)+384-1)=((m+383:Nat):Int) by omega];exact Zb (by omega) (by omega)
 rw[e1,e2,Int.tdiv_eq_ediv_of_nonneg (by omega)]at hl;have e3:af ((x.blocks+384-1)/384)=(x.blocks+384-1)/384:=by
  obtain⟨m,hm⟩: ∃m:Nat,(x.blocks+384-1)/384=m:=⟨((x.blocks+384-1)/384).toNat,by omega⟩;rw[hm];exact Zb (by omega) (by omega)
 rw[e3]at hl;omega
theorem ZzD (x:eU):(LM x).length=32+2*x.az.length:=by
 unfold LM;simp only[bg,Zq,ZS]
theorem ZxI {x:eU} (h:uw x):(wE x).length=64:=by
 have h1:=Zxa h;have h2:=ZzD x;exact uz (by omega)
end Go.Gv.F
namespace Go.Gv.F
open Go.Gv
structure Fin (B:List UInt8) (m:bp):Prop where
 room:64*m.next<=m.B.length
 line: ∀k,2<=k->k<m.next->dR B k=dR m.B k
theorem Fin.back {B:List UInt8} {m m':bp} (h:Fin B m') (e:Ex m m'):Fin B m:=
 ⟨by have:=h.room;have:=e.le;have:=e.len;omega,fun k h1 h2=>(h.line k h1 (jH h2 e.le)).trans (e.line k h2)⟩
theorem Fin.put {B:List UInt8} {m:bp} {s:List UInt8} (h:Fin B (eJ m s)) (hs:s.length=64) (h1:2<=m.next):dR B m.next=s:=by
 have hn:(eJ m s).next=m.next+1:=rfl;have h2:=h.room;rw[pB,hn]at h2;rw[h.line m.next h1 (by omega)];exact ZAc (by omega) hs
structure Mem (m:Nat) (W:List Nat) (P:Nat->Prop):Prop where
 len:W.length=(m+63)/64
 lt: ∀w∈W,w<18446744073709551616
 iff: ∀b,cR W b=true↔P b
theorem Ta (img:List UInt8) (k:Nat):Z7 img k=dR img k:=by unfold Z7 dR;rw[pq]
theorem AP {K:bA} {v:aW} {P:Nat->Prop} {k:Nat} (h:Mem K.m v.W P) (h2:2<=k) (hk:k<K.m) (hn: ¬P k):
  dh K (k:Int) v=some (ZK (dR K.img k), { v with W:=da K.m v.W k })/\Mem K.m (da K.m v.W k) (fun b=>P b\/b=k):=by
 have hm:gG K.m (k:Int)=true:=by
  unfold gG;rw[ah (show(0:Int)<=k by omega),ah (show(k:Int)<K.m by omega)];rfl
 have hi:cR v.W k=false:=by
  cases hw:cR v.W k with
  |false=>rfl
  |true=>exact absurd ((h.iff k).1 hw) hn
 refine⟨?_,by rw[sV];exact h.len,AK h.lt,fun b=>?_⟩
 ·unfold dh pK
  rw[hm,aX,hi,ah (show(k:Int)>=2 by omega),Ta];rfl
 ·rw[wv h.len,hm,aX,jD,h.iff b,cI,bc]
theorem Mem.congr {m:Nat} {W:List Nat} {P Q:Nat->Prop} (h:Mem m W P) (e: ∀b,P b↔Q b):Mem m W Q:=⟨h.len,h.lt,fun b=>(h.iff b).trans (e b)⟩
structure EOk (K:bA) (aw:List bL) (A:List Int) (e:bm):Prop where
 s0:0<=e.slot
 s1:e.slot<K.sup.used
 s2:e.slot<1792
 g:1<=e.gen/\e.gen<=4294967295
 k: -9223372036854775808<=e.key/\e.key<=9223372036854775807
 v: -9223372036854775808<=e.value/\e.value<=9223372036854775807
 aat:aw[e.slot.toNat]? =some ⟨true,e.gen,A.getD e.slot.toNat 0⟩
 len:e.slot.toNat<A.length
structure sS (K:bA) (aw:List bL) (A:List Int) (es:List bm):Prop where
 aN: ∀e∈es,EOk K aw A e
 nd:(es.map (·.slot)).Nodup
 ord:es.Pairwise fun a b=>iA a b=true
theorem sS.sub {K:bA} {aw:List bL} {A:List Int} {es gO:List bm} (h:sS K aw A es) (k:gO.Sublist es):sS K aw A gO:=
 ⟨fun e he=>h.aN e (k.subset he),h.nd.sublist (k.map _),h.ord.sublist k⟩
structure vX (v v':aW) (n:Nat):Prop where
 aw:v'.aw=v.aw
 aB:v'.aB=v.aB
 gens:v'.gens=v.gens
 free:v'.free=v.free
 nodes:v'.nodes=v.nodes+(n:Int)
theorem vX.trans {a b c:aW} {m n:Nat} (h:vX a b m) (k:vX b c n):vX a c (m+n):=
 ⟨k.aw.trans h.aw,k.aB.trans h.aB,k.gens.trans h.gens,k.free.trans h.free,by rw[k.nodes,h.nodes];omega⟩
def eE (a b k:Nat):Prop:=a<=k/\k<b
theorem ZwS {es:List bm} {r:List Int×bp} {s:Nat} (h: ∀e∈es,e.slot.toNat≠s):(ke es r).2.At.getD s 0=r.2.At.getD s 0:=by
 unfold ke;cases es with
 |nil=>rfl
 |cons e t=>
  show(r.2.At.set e.slot.toNat (r.2.next:Int)).getD s 0=_;rw[bJ,eu (h e jZ),<-bJ]
theorem Pm: ∀(j:Nat) (es:List bm) (m:bp) (s:Nat),(∀e∈es,e.slot.toNat≠s)->(bN j es m).2.At.getD s 0=m.At.getD s 0
 |0,_,_,_,_=>rfl
 |j+1,es,m,s,h=>by
  have h2: ∀e∈(es.drop (2^j)).take (2^j),e.slot.toNat≠s:=fun e he=>h e (sK (sL he))
  show(ke _ (bN j _ (bN j es m).2)).2.At.getD s 0=_;rw[ZwS h2,Pm j _ _ s h2,Pm j es m s h]
theorem Py (j:Nat) (es:List bm) (m:bp) (s:Nat) (h: ∀e∈es,e.slot.toNat≠s):(eX j es m).2.At.getD s 0=m.At.getD s 0:=(ZwS h).trans (Pm j es m s h)
theorem Zul: ∀(j:Nat) (es:List bm) (m:bp),2^j<=es.length->∀x∈(bN j es m).1,(m.next:Int)<=x/\x<(bN j es m).2.next
 |0,_,_,_,_,h=>by cases h
 |j+1,es,m,hl,x,h=>by
  have e2:2^(j+1)=2*2^j:=by rw[nb];omega
  have hp:=nc j;obtain⟨e,t,het⟩: ∃e t,(es.drop (2^j)).take (2^j)=e::t:=by
   cases hc:(es.drop (2^j)).take (2^j)with
   |nil=>
    have:=congrArg List.length hc;rw[bW,dt]at this;simp at this;omega
   |cons e t=>exact⟨e,t,rfl⟩
  have hk:bN (j+1) es m=((bN j es m).1++[((ke (e::t) (bN j (e::t) (bN j es m).2)).1:Int)],(ke (e::t) (bN j (e::t) (bN j es m).2)).2):=by
   rw[<-het];rfl
  rw[hk]at h⊢;have l1:=(Ex.kids j es m).le;have l2:=(Ex.kids j (e::t) (bN j es m).2).le;have l3:(ke (e::t) (bN j (e::t) (bN j es m).2)).2.next=(bN j (e::t) (bN j es m).2).2.next+1:=rfl;have l4:(ke (e::t) (bN j (e::t) (bN j es m).2)).1=(bN j (e::t) (bN j es m).2).2.next:=rfl;simp only at h⊢;rw[l3];rcases cW.1 h with h|h
  ·have:=Zul j es m (by omega) x h
   omega
  ·rw[bK.1 h,l4]
   omega
theorem Zy5 (e:bm) (l:List Int) (r:Int):lJ ⟨e,l++[r]⟩ (l.length+1)=⟨r,l.length,e,false⟩::lJ ⟨e,l⟩ l.length:=by
 rw[IN];have h1:(l++[r]).getD l.length 0=r:=by
  rw[bJ,gU (ay _),qw];rfl
 have h2: ∀n,n<=l.length->lJ ⟨e,l++[r]⟩ n=lJ ⟨e,l⟩ n:=by
  intro n;induction n with
  |zero=>intro _;rfl
  |succ n ih=>
   intro hn;rw[IN,IN,ih (by omega)];have:(l++[r]).getD n 0=l.getD n 0:=by
    rw[bJ,iL (by omega),<-bJ]
   simp only[this]
 rw[h2 _ (ay _)];simp only[h1]
theorem Zyw {K:bA} {v:aW} {P:Nat->Prop} {A:List Int} {e:bm} {kids:List Int} {k j:Nat} {par:bm} {top:Bool} (f:Nat) (out:List bm) (rest:List mB)
  (hM:Mem K.m v.W P) (h2:2<=k) (hk:k<K.m) (hn: ¬P k) (hl:dR K.img k=nV ⟨e,kids⟩) (he:EOk K v.aw A e) (hA:A.getD e.slot.toNat 0=(k:Int)) (jg:kids.length=j) (hj:j<=12)
  (yP: ∀x∈kids,2<=x/\x<3072) (ht:top=true\/iA par e=true):
  ∃v',lr K (f+1) out (⟨(k:Int),(j:Int),par,top⟩::rest) v=lr K f (out++[e]) (lJ ⟨e,kids⟩ j++rest) v'/\Mem K.m v'.W (fun b=>P b\/b=k)/\vX v v' 1:=by
 obtain⟨t1,t2⟩:=AP hM h2 hk hn;have hr:mF ⟨e,kids⟩=true:=by
  unfold mF;have Xa:kids.any vE=false:=by
   rw[List.any_eq_false];intro x hx;have:=yP x hx;unfold vE;rw[ao (show ¬x<2 by omega),ao (show ¬x>=3072 by omega)];decide
  have:=he.s0;have:=he.s2;have:=he.g;simp only;rw[Xa,ao (show ¬e.slot<0 by omega),ao (show ¬e.slot>=1792 by omega),ao (show ¬e.gen<1 by omega),ao (show ¬e.gen>4294967295 by omega),ao (show ¬(kids.length:Int)>12 by omega)];rfl
 have hb:=(Zwh hr he.k he.v).1;rw[hl,hb]at t1;refine⟨{ v with W:=da K.m v.W k,nodes:=v.nodes+1 },?_,t2,⟨rfl,rfl,rfl,rfl,rfl⟩⟩;have ve:wi K { v with W:=da K.m v.W k } ⟨(k:Int),(j:Int),par,top⟩ ⟨e,kids⟩=true:=by
  unfold wi AT;simp only;rw[jg,show(((j:Nat):Int)==(j:Int))=true from gN _,cond_true,ah he.s1,cond_true,he.aat,hA];have:(bif top then true else iA par e)=true:=by
   rcases ht with rfl|h
   ·rfl
   ·rw[h];cases top<;>rfl
  rw[this];simp
 conv=>lhs;unfold lr
 simp only;rw[t1];simp only;rw[ve,cond_true,jg]
section
variable (K:bA) (A:List Int)
def KW (j:Nat):Prop:=∀(es:List bm) (m:bp) (par:bm) (f:Nat) (out:List bm) (rest:List mB) (v:aW) (P:Nat->Prop),j<=12->2^j<=es.length->Fin K.img (bN j es m).2->(bN j es m).2.next<=K.m->K.m<=3072->2<=m.next->m.At.length=A.length->
 sS K v.aw A es->(∀i e,1<=i->es[i]? =some e->iA par e=true)->(∀i e,1<=i->i<2^j->es[i]? =some e->A.getD e.slot.toNat 0=(bN j es m).2.At.getD e.slot.toNat 0)->
 Mem K.m v.W P->(∀b,eE m.next (bN j es m).2.next b->¬P b)->
 ∃gO v',lr K (f+(2^j-1)) out (lJ ⟨par,(bN j es m).1⟩ j++rest) v=lr K f (out++gO) rest v'/\gO.Perm ((es.take (2^j)).drop 1)/\Mem K.m v'.W (fun b=>P b\/eE m.next (bN j es m).2.next b)/\vX v v' (2^j-1)/\(bN j es m).2.next=m.next+(2^j-1)
def TW (j:Nat):Prop:=∀(es:List bm) (m:bp) (par:bm) (top:Bool) (f:Nat) (out:List bm) (rest:List mB) (v:aW) (P:Nat->Prop),j<=12->2^j<=es.length->Fin K.img (eX j es m).2->(eX j es m).2.next<=K.m->K.m<=3072->2<=m.next->m.At.length=A.length->
 sS K v.aw A es->(top=true\/∀e,es[0]? =some e->iA par e=true)->(∀i e,i<2^j->es[i]? =some e->A.getD e.slot.toNat 0=(eX j es m).2.At.getD e.slot.toNat 0)->
 Mem K.m v.W P->(∀b,eE m.next (eX j es m).2.next b->¬P b)->
 ∃gO v',lr K (f+2^j) out (⟨((eX j es m).1:Int),j,par,top⟩::rest) v=lr K f (out++gO) rest v'/\gO.Perm (es.take (2^j))/\Mem K.m v'.W (fun b=>P b\/eE m.next (eX j es m).2.next b)/\vX v v' (2^j)/\(eX j es m).2.next=m.next+2^j/\2<=((eX j es m).1:Int)/\((eX j es m).1:Int)<3072
end
theorem ZuB {K:bA} {A:List Int} {j:Nat} (h:KW K A j):TW K A j:=by
 intro es m par top f out rest v P hj hl hF mO hK hn fY hW ht hA hM hP;obtain⟨e,t,rfl⟩: ∃e t,es=e::t:=by
  cases es with
  |nil=>have:=nc j;simp at hl
  |cons e t=>exact⟨e,t,rfl⟩
 obtain⟨r,hr⟩: ∃r,bN j (e::t) m=r:=⟨_,rfl⟩;have htb:eX j (e::t) m=(r.2.next, { eJ r.2 (nV ⟨e,r.1⟩)with At:=r.2.At.set e.slot.toNat (r.2.next:Int) }):=by
  unfold eX ke;rw[hr]
 rw[htb]at hF mO hA hP⊢;simp only at hF mO hA hP⊢;have oK:(eJ r.2 (nV ⟨e,r.1⟩)).next=r.2.next+1:=rfl;have wN:Fin K.img (eJ r.2 (nV ⟨e,r.1⟩)):=⟨hF.room,hF.line⟩;have hFr:Fin K.img r.2:=wN.back (Ex.put _ _);have hex:Ex m r.2:=by rw[<-hr];exact Ex.kids j _ m
 have hle:=hex.le;have Rz:=hW.aN e jZ;have xl:r.1.length=j:=by
  have:=(rN j (e::t) m).2.2.2.2;rw[hr]at this;exact this
 have WX:r.2.At.length=A.length:=by
  have:=(rN j (e::t) m).2.1;rw[hr]at this;exact this.trans fY
 have cZ:=hW.nd;rw[gM,qo]at cZ;have vt:=B0.1 hW.ord;have hA0:A.getD e.slot.toNat 0=(r.2.next:Int):=by
  rw[hA 0 e (nc j) rfl,bJ,fJ (by rw[WX];exact Rz.len)];rfl
 have hPr: ¬P r.2.next:=hP _ ⟨hle,by rw[oK];omega⟩;have k6: ∀x∈r.1,2<=x/\x<3072:=fun x hx=>by
  have:=Zul j (e::t) m hl x (by rw[hr];exact hx);rw[hr]at this;omega
 obtain⟨v1,s1,s2,s3⟩:=Zyw (K:=K) (v:=v) (par:=par) (top:=top) (f+(2^j-1)) out rest hM (show 2<=r.2.next by omega) (by rw[oK]at mO;omega) hPr (wN.put (by
   refine uz ?_;rw[show(rq ⟨e,r.1⟩).length=24+2*r.1.length from(O0 (x:=⟨e,r.1⟩) (by show r.1.length<=12;omega)).2];omega) (by omega)) Rz hA0 xl hj k6 (ht.imp id fun h=>h e rfl)
 have Yi:v1.aw=v.aw:=s3.aw;obtain⟨gO,v',q1,q2,q3,q4,q5⟩:=h (e::t) m e f (out++[e]) rest v1 (fun b=>P b\/b=r.2.next) hj hl (by rw[hr];exact hFr) (by rw[hr];omega) hK hn fY (by rw[Yi];exact hW) (fun i x hi hx=>by
   obtain⟨i,rfl⟩: ∃i',i=i'+1:=⟨i-1,by omega⟩;exact vt.1 x (lh (by simpa using hx))) (fun i x hi tF hx=>by
   rw[hr,hA i x tF hx,bJ,eu,<-bJ];obtain⟨i,rfl⟩: ∃i',i=i'+1:=⟨i-1,by omega⟩;have hx:t[i]? =some x:=by simpa using hx
   have Ew:=lh hx;have vA:=(hW.aN x (lT _ Ew)).s0;have he0:=Rz.s0;intro hc;exact cZ.1 (dP.2 ⟨x,Ew,by omega⟩)) s2 (fun b hb=>by
   rw[hr]at hb;rintro(h1|h1)
   ·exact hP b ⟨hb.1,by rw[oK];have:=hb.2;omega⟩ h1
   ·have:=hb.2;omega)
 rw[hr]at q1 q3 q5;have hp:=nc j;refine⟨e::gO,v',?_,?_,?_,?_,?_,by omega,by rw[oK]at mO;omega⟩
 ·rw[show f+2^j=f+(2^j-1)+1 by omega,s1,q1,dD]
  rfl
 ·obtain⟨n,hn⟩: ∃n,2^j=n+1:=⟨2^j-1,by omega⟩
  rw[hn,List.take_succ_cons]at q2⊢;rw[List.drop_succ_cons,dE]at q2;exact q2.cons e
 ·refine q3.congr fun b=>?_
  unfold eE;rw[oK];constructor
  ·rintro((h1|h1)|h1)
   ·exact .inl h1
   ·exact .inr (by omega)
   ·exact .inr (by omega)
  ·rintro(h1|h1)
   ·exact .inl (.inl h1)
   ·by_cases hb:b=r.2.next
    ·exact .inl (.inr hb)
    ·exact .inr (by omega)
 ·have:=s3.trans q4
  rwa [show 1+(2^j-1)=2^j by omega]at this
 ·rw[oK,q5];omega
theorem ZAZ {K:bA} {A:List Int} {j:Nat} (hT:TW K A j) (h:KW K A j):KW K A (j+1):=by
 intro es m par f out rest v P hj hl hF mO hK hn fY hW Vn hA hM hP;have e2:2^(j+1)=2*2^j:=by rw[nb];omega
 have hp:=nc j;obtain⟨jb,tD⟩: ∃jb,(es.drop (2^j)).take (2^j)=jb:=⟨_,rfl⟩;obtain⟨m1,eH⟩: ∃m1,(bN j es m).2=m1:=⟨_,rfl⟩;obtain⟨T,wO⟩: ∃T,eX j jb m1=T:=⟨_,rfl⟩;have hk:bN (j+1) es m=((bN j es m).1++[(T.1:Int)],T.2):=by
  rw[<-wO,<-eH,<-tD];rfl
 rw[hk]at hF mO hA hP⊢;simp only at hF mO hA hP⊢;have KK:Ex m1 T.2:=by rw[<-wO];exact Ex.tree j jb m1
 have Xt:Ex m m1:=by rw[<-eH];exact Ex.kids j es m
 have leT:=KK.le;have leK:=Xt.le;have jg:(bN j es m).1.length=j:=(rN j es m).2.2.2.2;have kh:jb.length=2^j:=by rw[<-tD,bW,dt];omega
 have UZ: ∀i e,jb[i]? =some e->es[2^j+i]? =some e:=fun i e he=>by
  have hi:=(cd.1 he).1;rw[<-tD,lg,aG (by omega),lR]at he;exact he
 have jN:sS K v.aw A jb:=hW.sub (by rw[<-tD];exact(List.take_sublist _ _).trans (List.drop_sublist _ _));have WW:m1.At.length=A.length:=by rw[<-eH];exact(rN j es m).2.1.trans fY
 obtain⟨a1,v1,p1,p2,p3,p4,p5,p6,p7⟩:=hT jb m1 par false (f+(2^j-1)) out (lJ ⟨par,(bN j es m).1⟩ j++rest) v P (by omega) (by omega) (by rw[wO];exact hF) (by rw[wO];exact mO) hK (by omega) WW jN
  (.inr fun e he=>Vn (2^j+0) e (by omega) (UZ 0 e he)) (fun i e hi he=>by rw[wO];exact hA (2^j+i) e (by omega) (by omega) (UZ i e he)) hM (fun b hb=>hP b ⟨by have:=hb.1;omega,by rw[wO]at hb;exact hb.2⟩)
 rw[wO]at p1 p3 p5;have DM: ∀i e,i<2^j->es[i]? =some e->∀e'∈jb,e'.slot.toNat≠e.slot.toNat:=fun i e hi he e' nI hc=>by
  have cZ:=hW.nd;have eR:es=es.take (2^j)++es.drop (2^j):=(lj _ _).symm;rw[eR,dL,hY]at cZ;have m1:e∈es.take (2^j):=lh (by rw[lg,aG hi];exact he);have m2:e'∈es.drop (2^j):=sL (by rw[tD];exact nI);have g1:=(hW.aN e (sL m1)).s0;have g2:=(hW.aN e' (sK m2)).s0;exact cZ.2.2 e.slot (dP.2 ⟨e,m1,rfl⟩) e'.slot (dP.2 ⟨e',m2,rfl⟩) (by omega)
 obtain⟨a2,v2,q1,q2,q3,q4,q5⟩:=h es m par f (out++a1) rest v1 (fun b=>P b\/eE m1.next T.2.next b) (by omega) (by omega) (by rw[eH];exact hF.back KK) (by rw[eH];omega) hK hn fY (by rw[p4.aw];exact hW) Vn
  (fun i e hi tF he=>by
   rw[hA i e hi (by omega) he,<-wO,Py j jb m1 _ (DM i e tF he),eH]) p3 (fun b hb=>by
   rw[eH]at hb;rintro(h1|h1)
   ·exact hP b ⟨hb.1,by have:=hb.2;omega⟩ h1
   ·have:=hb.2;have:=h1.1;omega)
 rw[eH]at q3 q5;refine⟨a1++a2,v2,?_,?_,?_,?_,?_⟩
 ·have:=Zy5 par (bN j es m).1 (T.1:Int)
  rw[jg]at this;rw[this,show f+(2^(j+1)-1)=f+(2^j-1)+2^j by omega];rw[kz,p1,q1,dD]
 ·have ht:es.take (2^(j+1))=es.take (2^j)++jb:=by
   rw[e2,show 2*2^j=2^j+2^j by omega,B3,tD]
  rw[ht,Fu (by rw[bW];omega)];rw[cA (by omega)]at p2;exact(List.perm_append_comm).trans (q2.append p2)
 ·refine q3.congr fun b=>?_
  unfold eE;constructor
  ·rintro((h1|h1)|h1)
   ·exact .inl h1
   ·exact .inr ⟨by omega,h1.2⟩
   ·exact .inr ⟨h1.1,by omega⟩
  ·rintro(h1|h1)
   ·exact .inl (.inl h1)
   ·by_cases hb:b<m1.next
    ·exact .inr ⟨h1.1,hb⟩
    ·exact .inl (.inr ⟨by omega,h1.2⟩)
 ·have:=p4.trans q4
  rwa [show 2^j+(2^j-1)=2^(j+1)-1 by omega]at this
 ·rw[p5,q5];omega
theorem Qq (K:bA) (A:List Int): ∀j,KW K A j
 |0=>by
  intro es m par f out rest v P _ hl _ _ _ _ _ _ _ _ hM _;refine⟨[],v,?_,?_,hM.congr fun b=>?_,⟨rfl,rfl,rfl,rfl,by simp⟩,rfl⟩
  ·rw[ez];rfl
  ·cases es with
   |nil=>exact .refl _
   |cons e t=>exact .refl _
  ·constructor
   ·exact .inl
   ·rintro(h1|h1)
    ·exact h1
    ·have h2:=h1.1
     have h3:b<m.next:=h1.2;omega
 |j+1=>ZAZ (ZuB (Qq K A j)) (Qq K A j)
theorem ZBn (K:bA) (A:List Int) (j:Nat):TW K A j:=ZuB (Qq K A j)
end Go.Gv.F
namespace Go.Gv.F
open Go.Gv
theorem CP (cnt:Nat): ∀(c k:Nat) (hs:List Int) (rest:List bm) (m:bp) (s:Nat),(∀e∈rest,e.slot.toNat≠s)->(dw cnt c k hs rest m).2.At.getD s 0=m.At.getD s 0
 |0,_,_,_,_,_,_=>rfl
 |c+1,k,hs,rest,m,s,h=>by
  unfold dw;cases dM cnt k with
  |true=>exact(CP cnt c _ _ _ _ s fun e he=>h e (sK he)).trans (Py k _ m s fun e he=>h e (sL he))
  |false=>exact CP cnt c _ _ _ _ s h
theorem ZwV (cnt k:Nat):cnt/2^k*2^k=cnt/2^(k+1)*2^(k+1)+(if cnt/2^k%2=1 then 2^k else 0):=by
 have h1:cnt/2^(k+1)=cnt/2^k/2:=by rw[nb,LU]
 have h2:=Nat.div_add_mod (cnt/2^k) 2;rw[h1,nb];generalize cnt/2^k=a at h2;generalize 2^k=b;by_cases h:a%2=1
 ·rw[aG h]
  rw[h]at h2;have:a=2*(a/2)+1:=h2.symm
  calc a*b=(2*(a/2)+1)*b:=by rw[<-this]
   _=a/2*(b*2)+b:=by rw[qu,Nat.one_mul,pq 2 (a/2),Nat.mul_assoc,pq 2 b]
 ·rw[ax h]
  have h0:a%2=0:=by omega
  rw[h0]at h2;have:a=2*(a/2):=h2.symm
  calc a*b=(2*(a/2))*b:=by rw[<-this]
   _=a/2*(b*2)+0:=by rw[pq 2 (a/2),Nat.mul_assoc,pq 2 b,dG]
theorem On {K:bA} {A:List Int} {cnt:Nat} : ∀(c k:Nat) (hs:List Int) (rest:List bm) (m:bp) (acc:List bm) (v:aW) (P:Nat->Prop),k+c=12->hs.length=12->(∀i,k<=i->hs.getD i 0=0)->rest.length=cnt/2^k*2^k->cnt<4096->
  Fin K.img (dw cnt c k hs rest m).2->(dw cnt c k hs rest m).2.next<=K.m->K.m<=3072->2<=m.next->m.At.length=A.length->sS K v.aw A rest->(∀e∈rest,A.getD e.slot.toNat 0=(dw cnt c k hs rest m).2.At.getD e.slot.toNat 0)->
  Mem K.m v.W P->(∀b,eE m.next (dw cnt c k hs rest m).2.next b->¬P b)->
  ∃gO v',ly K (k:Int) ((dw cnt c k hs rest m).1.drop k) acc v=some (acc++gO,v')/\gO.Perm rest/\Mem K.m v'.W (fun b=>P b\/eE m.next (dw cnt c k hs rest m).2.next b)/\vX v v' rest.length/\(dw cnt c k hs rest m).2.next=m.next+rest.length/\
   (∀i,i<k->(dw cnt c k hs rest m).1.getD i 0=hs.getD i 0)/\(∀i,k<=i->i<12->bif dM cnt i then 2<=(dw cnt c k hs rest m).1.getD i 0/\(dw cnt c k hs rest m).1.getD i 0<3072 else(dw cnt c k hs rest m).1.getD i 0=0)
 |0,k,hs,rest,m,acc,v,P,hkc,hl,hz,hr,hc,_,_,_,_,_,_,_,hM,_=>by
  have hk:k=12:=by omega
  subst hk;have h0:rest=[]:=by
   rw[Nat.div_eq_of_lt (show cnt<2^12 by omega)]at hr;exact pd.1 (by omega)
  subst h0;refine⟨[],v,?_,.refl _,hM.congr fun b=>?_,⟨rfl,rfl,rfl,rfl,by simp⟩,rfl,fun _ _=>rfl,fun i h1 h2=>by omega⟩
  ·show ly K _ (hs.drop 12) acc v=_
   rw[mZ (by omega),ez];rfl
  ·constructor
   ·exact .inl
   ·rintro(h1|h1)
    ·exact h1
    ·have h2:=h1.1
     have h3:b<m.next:=h1.2;omega
 |c+1,k,hs,rest,m,acc,v,P,hkc,hl,hz,hr,hc,hF,mO,hK,hn,fY,hW,hA,hM,hP=>by
  have hp:=nc k;have pQ:=ZwV cnt k;have hlen: ∀(c k:Nat) (hs:List Int) (rest:List bm) (m:bp),(dw cnt c k hs rest m).1.length=hs.length:=fun c k hs rest m=>(HL cnt c k hs rest m).2.2.2.2
  cases hb:dM cnt k with
  |false=>
   have e:dw cnt (c+1) k hs rest m=dw cnt c (k+1) hs rest m:=by
    conv=>lhs;unfold dw
    rw[hb,cond_false]
   rw[e]at hF mO hA hP⊢;have eQ: ¬cnt/2^k%2=1:=uv hb;rw[ax eQ,dG]at pQ;obtain⟨gO,v',a1,a2,a3,a4,a5,a6,a7⟩:=On c (k+1) hs rest m acc v P (by omega) hl (fun i hi=>hz i (by omega)) (by rw[hr,pQ]) hc hF mO hK hn fY hW hA hM hP;have h0:(dw cnt c (k+1) hs rest m).1.getD k 0=0:=by rw[a6 k (by omega)];exact hz k (ay _)
   refine⟨gO,v',?_,a2,a3,a4,a5,fun i hi=>a6 i (by omega),fun i h1 h2=>?_⟩
   ·have jg:k<(dw cnt c (k+1) hs rest m).1.length:=by rw[hlen];omega
    rw[gT jg];have QX:(dw cnt c (k+1) hs rest m).1[k]=0:=by
     rw[bJ,ba jg]at h0;exact h0
    rw[QX];unfold ly;rw[show(!((0:Int)==0))=false from rfl,cond_false,show((k:Int)+1)=((k+1:Nat):Int) by omega];exact a1
   ·by_cases hi:i=k
    ·subst hi;rw[hb,cond_false];exact h0
    ·exact a7 i (by omega) h2
  |true=>
   obtain⟨T,hT⟩: ∃T,eX k (rest.take (2^k)) m=T:=⟨_,rfl⟩;have e:dw cnt (c+1) k hs rest m=dw cnt c (k+1) (hs.set k (T.1:Int)) (rest.drop (2^k)) T.2:=by
    conv=>lhs;unfold dw
    rw[hb,cond_true,hT]
   rw[e]at hF mO hA hP⊢;have eQ:cnt/2^k%2=1:=lY hb;rw[aG eQ]at pQ;have KK:Ex m T.2:=by rw[<-hT];exact Ex.tree k _ m
   have UO:Ex T.2 (dw cnt c (k+1) (hs.set k (T.1:Int)) (rest.drop (2^k)) T.2).2:=Ex.dw cnt c _ _ _ _;have leT:=KK.le;have leR:=UO.le;have p8:(rest.take (2^k)).length=2^k:=by rw[bW];omega
   have eR:rest=rest.take (2^k)++rest.drop (2^k):=(lj _ _).symm;have DM: ∀e∈rest.take (2^k),∀e'∈rest.drop (2^k),e'.slot.toNat≠e.slot.toNat:=fun e he e' nI Rt=>by
    have cZ:=hW.nd;rw[eR,dL,hY]at cZ;have g1:=(hW.aN e (sL he)).s0;have g2:=(hW.aN e' (sK nI)).s0;exact cZ.2.2 e.slot (dP.2 ⟨e,he,rfl⟩) e'.slot (dP.2 ⟨e',nI,rfl⟩) (by omega)
   obtain⟨a1,v1,p1,p2,p3,p4,p5,p6,p7⟩:=ZBn K A k (rest.take (2^k)) m Dr true (K.m+1-2^k) [] [] v P (by omega) (by omega) (by rw[hT];exact hF.back UO) (by rw[hT];omega) hK hn fY (hW.sub (List.take_sublist _ _)) (.inl rfl)
    (fun i e hi he=>by
     have hem:=lh he;rw[hT,hA e (sL hem),CP cnt c _ _ _ _ _ (DM e hem)]) hM (fun b cz=>hP b ⟨cz.1,by rw[hT]at cz;have:=cz.2;omega⟩)
   rw[hT]at p1 p3 p5 p6 p7;rw[cA (l:=rest.take (2^k)) (by omega)]at p2;have Rh:T.2.At.length=A.length:=by rw[<-hT];exact(IA k _ m).2.1.trans fY
   obtain⟨gO,v',b1,b2,b3,b4,b5,b6,b7⟩:=On c (k+1) (hs.set k (T.1:Int)) (rest.drop (2^k)) T.2 (acc++a1) v1 (fun b=>P b\/eE m.next T.2.next b) (by omega) (by rw[hU];exact hl)
    (fun i hi=>by rw[bJ,eu (by omega),<-bJ];exact hz i (by omega)) (by rw[dt,hr,pQ];omega) hc hF mO hK (by omega) Rh (by rw[p4.aw];exact hW.sub (List.drop_sublist _ _)) (fun e he=>hA e (sK he)) p3
    (fun b cz=>by
     rintro(h1|h1)
     ·exact hP b ⟨by have:=cz.1;omega,cz.2⟩ h1
     ·have:=cz.1;have:=h1.2;omega)
   have RZ:(dw cnt c (k+1) (hs.set k (T.1:Int)) (rest.drop (2^k)) T.2).1.getD k 0=(T.1:Int):=by
    rw[b6 k (by omega),bJ,fJ (by omega)];rfl
   refine⟨a1++gO,v',?_,?_,?_,?_,?_,fun i hi=>?_,fun i h1 h2=>?_⟩
   ·have jg:k<(dw cnt c (k+1) (hs.set k (T.1:Int)) (rest.drop (2^k)) T.2).1.length:=by rw[hlen,hU];omega
    rw[gT jg];have QX:(dw cnt c (k+1) (hs.set k (T.1:Int)) (rest.drop (2^k)) T.2).1[k]=(T.1:Int):=by
     rw[bJ,ba jg]at RZ;exact RZ
    rw[QX];unfold ly;have bn:(!((T.1:Int)==0))=true:=by rw[cx.2 (by omega)];rfl
    have htm:sF K (T.1:Int) (k:Int) v=some (a1,v1):=by
     unfold sF;obtain⟨f,hf⟩: ∃f,K.m+1-2^k=f+1:=⟨K.m-2^k,by omega⟩;rw[show K.m+1=K.m+1-2^k+2^k by omega,p1,hf];rfl
    rw[bn,cond_true,htm];simp only;rw[show((k:Int)+1)=((k+1:Nat):Int) by omega,b1,dD]
   ·have:=p2.append b2
    rwa [<-eR]at this
   ·refine b3.congr fun b=>?_
    unfold eE;constructor
    ·rintro((h1|h1)|h1)
     ·exact .inl h1
     ·exact .inr ⟨h1.1,by omega⟩
     ·exact .inr ⟨by omega,h1.2⟩
    ·rintro(h1|h1)
     ·exact .inl (.inl h1)
     ·by_cases pN:b<T.2.next
      ·exact .inl (.inr ⟨h1.1,pN⟩)
      ·exact .inr ⟨by omega,h1.2⟩
   ·have:=p4.trans b4
    rw[dt]at this
    rwa [show 2^k+(rest.length-2^k)=rest.length by omega]at this
   ·rw[b5,p5,dt];omega
   ·rw[b6 i (by omega),bJ,eu (by omega),<-bJ]
   ·by_cases hi:i=k
    ·subst hi;rw[hb,cond_true,RZ];exact⟨p6,p7⟩
    ·exact b7 i (by omega) h2
end Go.Gv.F
namespace Go.Gv.F
open Go.Gv
theorem Zvh: ∀(n:Nat) (s:List UInt8),s.length<=n->((cL s).all fun r=>sB r)=true->s.length<=3*(cL s).length
 |0,s,h,_=>by omega
 |n+1,s,h,ha=>by
  by_cases h0:0<s.length
  ·rw[Jv h0]at ha⊢
   rw[sJ,aH]at ha;have hp:=ym s 0;have ih:=Zvh n (s.drop (dec s 0).2) (by rw[dt];omega) ha.2;have h3:(dec s 0).2<=3:=by
    have ho:=ha.1;have hr:((dec s 0).1:Int)<=65519:=by
     unfold sB at ho;simp only[jD,aH,bc,mu]at ho;omega
    rw[wD]at hr⊢;by_cases c1:oc s 0<128
    ·rw[aG c1]
     show 1<=3;omega
    rw[ax c1]at hr⊢;by_cases c2:(194<=oc s 0/\oc s 0<=223)/\(128<=oc s (0+1)/\oc s (0+1)<=191)
    ·rw[aG c2]
     show 2<=3;omega
    rw[ax c2]at hr⊢;by_cases c3:(224<=oc s 0/\oc s 0<=239)/\((if oc s 0=224 then 160 else 128)<=oc s (0+1)/\oc s (0+1)<=(if oc s 0=237 then 159 else 191))/\(128<=oc s (0+2)/\oc s (0+2)<=191)
    ·rw[aG c3]
     show 3<=3;omega
    rw[ax c3]at hr⊢;by_cases c4:(240<=oc s 0/\oc s 0<=244)/\((if oc s 0=240 then 144 else 128)<=oc s (0+1)/\oc s (0+1)<=(if oc s 0=244 then 143 else 191))/\(128<=oc s (0+2)/\oc s (0+2)<=191)/\(128<=oc s (0+3)/\oc s (0+3)<=191)
    ·rw[aG c4]at hr
     exfalso;simp only at hr;by_cases e:oc s 0=240
     ·have:=c4.2.1.1
      rw[aG e]at this;omega
     ·omega
    rw[ax c4];show 1<=3;omega
   rw[dt]at ih;rw[dF];omega
  ·omega
theorem Zxo {s:List UInt8} (h:mG s=true):s.length<=24:=by
 unfold mG at h;rw[aH,aH,bc,bc]at h;have:=Zvh s.length s (ay _) h.2.2;omega
theorem ZtB (a b:bm):iA a b=ef (e4 a) (e4 b):=Zyp (e4 a) (e4 b)
theorem ZpC: ∀ {l:List bm},AF l->l.Pairwise fun a b=>iA a b=true
 |[],_=> .nil
 |a::l,h=>by
  have ih:=ZpC (l:=l) fun i x y h1 h2=>h (i+1) x y (by simpa using h1) (by simpa using h2)
  refine B0.2 ⟨fun x hx=>?_,ih⟩;cases l with
  |nil=>cases hx
  |cons b t=>
   have dc:iA a b=true:=h 0 a b rfl rfl;rcases bX.1 hx with rfl|hx
   ·exact dc
   ·have hbx:=(B0.1 ih).1 x hx
    rw[ZtB]at dc hbx⊢;exact O3 dc hbx
theorem Zzl {es gO:List bm} (hp:gO.Perm es) (ho:es.Pairwise fun a b=>iA a b=true) (hd:(es.map (·.slot)).Nodup):qh gO=es:=by
 have jw:Diff gO:=by
  have:=(hp.map (·.slot)).nodup_iff.2 hd;unfold Diff;exact Fw.1 this
 have tx:=Oh (NA jw);have hs:(es.map e4).Pairwise (fun a b=>ef b a=false):=by
  rw[Fw];refine ho.imp fun {a b} h=>?_
  rw[ZtB]at h;exact O5 h
 have:=Zqa (l:=gO.map e4) (l':=es.map e4) ((hp.map e4).symm) tx hs;unfold qh;rw[<-this,xT,show BT∘e4=id from rfl,List.map_id]
def Qx (l:List cN) (s:Nat):Prop:=∀e∈(l.map (·.aN)).flatten,e.slot.toNat≠s
theorem IQ: ∀(l:List cN) (db:List Int) (m:bp) (s:Nat),Qx l s->(eO l db m).2.At.getD s 0=m.At.getD s 0
 |[],_,_,_,_=>rfl
 |x::r,db,m,s,h=>by
  have h1: ∀e∈x.aN,e.slot.toNat≠s:=fun e he=>h e (by rw[gM,mo];exact vS _ he)
  have h2:Qx r s:=fun e he=>h e (by rw[gM,mo];exact zU _ he)
  exact(IQ r _ _ s h2).trans (CP _ _ _ _ _ _ s h1)
theorem PF {K:bA} {A:List Int} : ∀(l:List cN) (db:List Int) (m:bp) (v:aW) (P:Nat->Prop),Fin K.img (eO l db m).2->(eO l db m).2.next<=K.m->K.m<=3072->2<=m.next->m.At.length=A.length->
  (∀h∈l,sS K v.aw A h.aN/\mG h.name=true/\h.aN.length<4096)->(((l.map (·.aN)).flatten).map (·.slot)).Nodup->Pr (v.aB++l)->
  (∀e∈(l.map (·.aN)).flatten,A.getD e.slot.toNat 0=(eO l db m).2.At.getD e.slot.toNat 0)->Mem K.m v.W P->(∀b,eE m.next (eO l db m).2.next b->¬P b)->
  ∃v' new,(eO l db m).1=db++new/\new.length=l.length/\new.Nodup/\(∀x∈new,(m.next:Int)<=x/\x<(eO l db m).2.next)/\qL K v.aB.length new v=some v'/\Mem K.m v'.W (fun b=>P b\/eE m.next (eO l db m).2.next b)/\
   v'.aB=v.aB++l/\v'.aw=v.aw/\v'.gens=v.gens/\v'.free=v.free/\v'.nodes=v.nodes+((iO l:Nat):Int)
 |[],db,m,v,P,_,_,_,_,_,_,_,_,_,hM,_=>by
  refine⟨v,[],(ez _).symm,rfl,.nil,fun x h=>(nomatch h),rfl,hM.congr fun b=>?_,(ez _).symm,rfl,rfl,rfl,by simp[iO]⟩;constructor
  ·exact .inl
  ·rintro(h1|h1)
   ·exact h1
   ·have h2:=h1.1
    have h3:b<m.next:=h1.2;omega
 |x::r,db,m,v,P,hF,mO,hK,hn,fY,hh,cZ,vt,hA,hM,hP=>by
  obtain⟨T,hT⟩: ∃T,roots x.aN m=T:=⟨_,rfl⟩;obtain⟨m1,eH⟩: ∃m1,eJ T.2 (oQ ⟨x.name,x.aN.length,T.1⟩)=m1:=⟨_,rfl⟩;have e:eO (x::r) db m=eO r (db++[(T.2.next:Int)]) m1:=by
   conv=>lhs;unfold eO
   rw[hT,<-eH]
  rw[e]at hF mO hA hP⊢;have Xr:Ex m T.2:=by rw[<-hT];exact Ex.dw _ _ _ _ _ m
  have Xs:Ex T.2 m1:=by rw[<-eH];exact Ex.put _ _
  have UN:Ex m1 (eO r (db++[(T.2.next:Int)]) m1).2:=Ex.eO r _ _;have l1:=Xr.le;have l2:m1.next=T.2.next+1:=by rw[<-eH];rfl
  have l3:=UN.le;obtain⟨hW,Sz,DK⟩:=hh x jZ;rw[gM,mo]at cZ hA;have abk:=cZ;rw[dL,hY]at cZ;have DM: ∀e∈x.aN,Qx r e.slot.toNat:=fun e he e' nI hc=>by
   have g1:=(hW.aN e he).s0;obtain⟨w,hw,hew⟩:=List.mem_flatten.1 nI;obtain⟨g,hg,rfl⟩:=dP.1 hw;have g2:=((hh g (lT _ hg)).1.aN e' hew).s0;exact cZ.2.2 e.slot (dP.2 ⟨e,he,rfl⟩) e'.slot (dP.2 ⟨e',nI,rfl⟩) (by omega)
  have oE:Fin K.img m1:=hF.back UN;have Kt:Fin K.img T.2:=oE.back Xs;have Rh:T.1.length=12:=by rw[<-hT];exact(CA x.aN m).2.2.2.2
  have W5:T.2.At.length=A.length:=by rw[<-hT];exact(CA x.aN m).2.1.trans fY
  have U5:m1.At=T.2.At:=by rw[<-eH];rfl
  obtain⟨q1,Ef⟩: ∃k,T.2.next=k:=⟨_,rfl⟩;have hPq: ¬P T.2.next:=hP _ ⟨l1,by omega⟩;have y6:dw x.aN.length 12 0 (List.replicate 12 0) x.aN m=T:=hT;have hAx: ∀e∈x.aN,A.getD e.slot.toNat 0=T.2.At.getD e.slot.toNat 0:=fun e he=>by
   rw[hA e (vS _ he),IQ r _ _ _ (DM e he),U5]
  have VH:=fun(acc:List bm) (v:aW) (P:Nat->Prop) (hs:sS K v.aw A x.aN) (hM:Mem K.m v.W P) (hd: ∀b,eE m.next T.2.next b->¬P b)=>
   On (K:=K) (A:=A) (cnt:=x.aN.length) 12 0 (List.replicate 12 0) x.aN m acc v P rfl rfl (fun i _=>by
    rw[bJ,zS];split<;>rfl) (by rw[zZ,Nat.div_one,di]) DK (by rw[y6];exact Kt) (by rw[y6];omega) hK hn fY hs (by rw[y6];exact hAx) hM (by rw[y6];exact hd)
  obtain⟨_,_,_,_,_,_,w5,_,w7⟩:=VH [] v P hW hM (fun b hb=>hP b ⟨hb.1,by have:=hb.2;omega⟩);rw[y6]at w5 w7;have hhr: ∀k∈T.1,0<=k/\k<3072:=fun k hk=>by
   obtain⟨i,hi,rfl⟩:=BZ hk;have:=w7 i (by omega) (by omega);rw[bJ,ba hi]at this;cases hb:dM x.aN.length i with
   |true=>rw[hb,cond_true]at this;have h2:2<=T.1[i]/\T.1[i]<3072:=this;omega
   |false=>rw[hb,cond_false]at this;have h2:T.1[i]=0:=this;omega
  obtain⟨hql,hqb⟩:=ZxR (x:=⟨x.name,x.aN.length,T.1⟩) Rh DK Sz (Zxo Sz) (fun i hi=>by
   have:=w7 i (by omega) hi;unfold qX rW;simp only;cases hb:dM x.aN.length i with
   |true=>
    rw[hb,cond_true]at this;rw[cond_true,ah (show T.1.getD i 0>=2 by omega),ah this.2];rfl
   |false=>
    rw[hb,cond_false]at this;rw[cond_false,this];rfl) hhr
  have xd:dR K.img T.2.next=oQ ⟨x.name,x.aN.length,T.1⟩:=Fin.put (by rw[eH];exact oE) hql (by omega);obtain⟨t1,t2⟩:=AP hM (show 2<=T.2.next by omega) (show T.2.next<K.m by omega) hPq;rw[xd,hqb]at t1;obtain⟨gO,v2,u1,u2,u3,u4,_,_,_⟩:=VH [] { v with W:=da K.m v.W T.2.next } (fun b=>P b\/b=T.2.next) hW t2 (fun b hb=>by
   rintro(h1|h1)
   ·exact hP b ⟨hb.1,by have:=hb.2;omega⟩ h1
   ·have:=hb.2;omega)
  rw[y6,dE,fe]at u1;rw[y6]at u3;have VB:qh gO=x.aN:=Zzl u2 hW.ord hW.nd;obtain⟨v',new,d1,d2,d3,d4,d5,d6,d7,d8,d9,d10,d11⟩:=PF r (db++[(T.2.next:Int)]) m1 { v2 with aB:=v2.aB++[⟨x.name,qh gO⟩] } (fun b=>(P b\/b=T.2.next)\/eE m.next T.2.next b) hF mO hK (by omega) (by rw[U5];exact W5)
   (fun h hm=>by
    have:=hh h (lT _ hm);rw[show v2.aw=v.aw from u4.aw];exact this) (by
    exact cZ.2.1) (by
    rw[show v2.aB=v.aB from u4.aB,VB];rw[dD];exact vt) (fun e he=>hA e (zU _ he)) u3 (fun b hb=>by
    rintro((h1|h1)|h1)
    ·exact hP b ⟨by have:=hb.1;omega,hb.2⟩ h1
    ·have:=hb.1;omega
    ·have:=hb.1;have:=h1.2;omega)
  have DR:v2.aB=v.aB:=u4.aB;have DO:iO (x::r)=x.aN.length+iO r:=by unfold iO;rw[gM,List.sum_cons]
  refine⟨v',(T.2.next:Int)::new,by rw[d1,dD];rfl,by rw[dF,d2,dF],?_,?_,?_,?_,?_,d8.trans u4.aw,d9.trans u4.gens,d10.trans u4.free,?_⟩
  ·refine qo.2 ⟨fun h=>?_,d3⟩
   have:=(d4 _ h).1;omega
  ·intro y hy
   rcases bX.1 hy with rfl|hy
   ·omega
   ·have:=d4 y hy
    omega
  ·unfold qL
   rw[t1];simp only;have hna:AV { v with W:=da K.m v.W T.2.next } v.aB.length x.name=true:=by
    unfold AV;by_cases h0:v.aB.length=0
    ·rw[ah h0];rfl
    ·rw[ao h0,cond_false]
     simp only;have hg:v.aB[v.aB.length-1]? =some (v.aB[v.aB.length-1]'(by omega)):=ba (by omega);rw[hg];simp only;refine ah (vt (v.aB.length-1) _ x ?_ ?_)
     ·rw[iL (by omega)];exact hg
     ·rw[gU (by omega),show v.aB.length-1+1-v.aB.length=0 by omega];rfl
   rw[hna,cond_true];rw[show(0:Int)=((0:Nat):Int)from rfl,u1];simp only;simp only[DR,bg,rG]at d5;rw[DR];exact d5
  ·refine d6.congr fun b=>?_
   unfold eE;constructor
   ·rintro(((h1|h1)|h1)|h1)
    ·exact .inl h1
    ·exact .inr (by omega)
    ·exact .inr ⟨h1.1,by have:=h1.2;omega⟩
    ·exact .inr ⟨by have:=h1.1;omega,h1.2⟩
   ·rintro(h1|h1)
    ·exact .inl (.inl (.inl h1))
    ·by_cases hb:b<T.2.next
     ·exact .inl (.inr ⟨h1.1,hb⟩)
     ·by_cases eQ:b=T.2.next
      ·exact .inl (.inl (.inr eQ))
      ·exact .inr ⟨by omega,h1.2⟩
  ·rw[d7]
   simp only;rw[DR,VB,dD];rfl
  ·rw[d11]
   simp only;rw[u4.nodes,DO];simp only;omega
end Go.Gv.F
namespace Go.Gv.F
open Go.Gv
theorem ZvN {gens free:List Int} {B:List UInt8} (c:Nat): ∀(f:Nat) (ls:List Int) (m:bp),gens.length<=f+7*c->2<=m.next->(∀g,(iX (ot (jo gens m.At free g))).length=64)->
  (fB gens free c f ls m).1=ls++Zt m.next ((gens.length-f+6)/7)/\(fB gens free c f ls m).2.next=m.next+(gens.length-f+6)/7/\(fB gens free c f ls m).2.At=m.At/\
   (Fin B (fB gens free c f ls m).2->∀t,t<(gens.length-f+6)/7->dR B (m.next+t)=iX (ot (jo gens m.At free (f+7*t)))):=by
 induction c with
 |zero=>
  intro f ls m h _ _;have hz:(gens.length-f+6)/7=0:=by omega
  have e:fB gens free 0 f ls m=(ls,m):=rfl;rw[e,hz];refine⟨?_,rfl,rfl,fun _ t ht=>by omega⟩;unfold Zt;simp
 |succ c ih=>
  intro f ls m h h1 mK;by_cases hf:f<gens.length
  ·obtain⟨m2,dr⟩: ∃m2,eJ m (iX (ot (jo gens m.At free f)))=m2:=⟨_,rfl⟩
   have e:fB gens free (c+1) f ls m=fB gens free c (f+7) (ls++[(m.next:Int)]) m2:=by
    conv=>lhs;unfold fB
    rw[ah hf,cond_true,dr]
   have hn:m2.next=m.next+1:=by rw[<-dr];rfl
   have hA:m2.At=m.At:=by rw[<-dr];rfl
   rw[e];have hex:=Ex.fB gens free c (f+7) (ls++[(m.next:Int)]) m2;obtain⟨a1,a2,a3,a4⟩:=ih (f+7) (ls++[(m.next:Int)]) m2 (by omega) (by omega) (by rw[hA];exact mK);generalize fB gens free c (f+7) (ls++[(m.next:Int)]) m2=R at a1 a2 a3 a4 hex⊢;rw[hA]at a3 a4;rw[hn]at a1 a2 a4;have hd:(gens.length-f+6)/7=(gens.length-(f+7)+6)/7+1:=by omega
   refine⟨?_,by rw[a2,hd];omega,a3,fun hF t ht=>?_⟩
   ·rw[a1,dD,hd]
    congr 1;unfold Zt;rw[List.range_succ_eq_map,gM,xT,List.singleton_append,dG];congr 1;refine xS fun i _=>?_
    show((m.next+1+i:Nat):Int)=((m.next+(i+1):Nat):Int);omega
   ·cases t with
    |zero=>
     rw[Nat.mul_zero,dG,dG];have oE:=hF.back hex;rw[<-dr]at oE;exact oE.put (mK f) h1
    |succ t=>
     have:=a4 hF t (by omega);rw[show m.next+(t+1)=m.next+1+t by omega,show f+7*(t+1)=f+7+7*t by omega];exact this
  ·have e:fB gens free (c+1) f ls m=(ls,m):=by
    conv=>lhs;unfold fB
    rw[ao hf,cond_false]
   have:(gens.length-f+6)/7=0:=by omega
   rw[e,this];refine⟨?_,rfl,rfl,fun _ t ht=>by omega⟩;unfold Zt;simp
theorem ZrU {leaves:List Int} {B:List UInt8} : ∀(c i:Nat) (top:List Int) (m:bp),i+c=16->leaves.length<=256->top.length=16->2<=m.next->(∀g,(iX (kH (iP leaves g))).length=64)->
  (∀j,i<=j->top.getD j 0=0)->
  (gy leaves c i top m).2.next=m.next+((leaves.length+15)/16-i)/\(gy leaves c i top m).2.At=m.At/\(gy leaves c i top m).1.length=16/\
   (∀j,(gy leaves c i top m).1.getD j 0=if j<i then top.getD j 0 else if 16*j<leaves.length then((m.next+(j-i):Nat):Int)else 0)/\
   (Fin B (gy leaves c i top m).2->∀j,i<=j->16*j<leaves.length->dR B (m.next+(j-i))=iX (kH (iP leaves j)))
 |0,i,top,m,h,hl,ht,_,_,hz=>by
  have:(leaves.length+15)/16-i=0:=by omega
  rw[this];refine⟨rfl,rfl,ht,fun j=>?_,fun _ j h1 h2=>by omega⟩;show top.getD j 0=_;split
  ·rfl
  ·rename_i hj
   rw[hz j (by omega),ax (by omega)]
 |c+1,i,top,m,h,hl,ht,h1,mK,hz=>by
  by_cases hf:16*i<leaves.length
  ·obtain⟨m2,dr⟩: ∃m2,eJ m (iX (kH (iP leaves i)))=m2:=⟨_,rfl⟩
   have e:gy leaves (c+1) i top m=gy leaves c (i+1) (top.set i (m.next:Int)) m2:=by
    conv=>lhs;unfold gy
    rw[ah hf,cond_true,dr]
   have hn:m2.next=m.next+1:=by rw[<-dr];rfl
   have hA:m2.At=m.At:=by rw[<-dr];rfl
   rw[e];have hex:=Ex.gy leaves c (i+1) (top.set i (m.next:Int)) m2;obtain⟨a1,a2,a3,a4,a5⟩:=ZrU (leaves:=leaves) (B:=B) c (i+1) (top.set i (m.next:Int)) m2 (by omega) hl (by rw[hU];exact ht) (by omega) mK (fun j hj=>by
    rw[bJ,eu (by omega),<-bJ];exact hz j (by omega))
   generalize gy leaves c (i+1) (top.set i (m.next:Int)) m2=R at a1 a2 a3 a4 a5 hex⊢;rw[hn]at a1 a4 a5;rw[hA]at a2;refine⟨by rw[a1];omega,a2,a3,fun j=>?_,fun hF j si w4=>?_⟩
   ·rw[a4 j]
    by_cases hj:j<i
    ·rw[aG (by omega),aG hj,bJ,eu (by omega),<-bJ]
    ·rw[ax hj]
     by_cases jf:j=i
     ·subst jf
      rw[aG (by omega),aG hf,bJ,fJ (by omega),qw];rfl
     ·rw[ax (by omega)]
      by_cases vn:16*j<leaves.length
      ·rw[aG vn,aG vn]
       omega
      ·rw[ax vn,ax vn]
   ·by_cases jf:j=i
    ·subst jf
     rw[qw,dG];have oE:=hF.back hex;rw[<-dr]at oE;exact oE.put (mK j) h1
    ·have:=a5 hF j (by omega) w4
     rw[show m.next+(j-i)=m.next+1+(j-(i+1)) by omega];exact this
  ·have e:gy leaves (c+1) i top m=(top,m):=by
    conv=>lhs;unfold gy
    rw[ao hf,cond_false]
   have:(leaves.length+15)/16-i=0:=by omega
   rw[e,this];refine⟨rfl,rfl,ht,fun j=>?_,fun _ j h1 h2=>by omega⟩;show top.getD j 0=_;split
   ·rfl
   ·rename_i hj
    rw[hz j (by omega),ax (by omega)]
def iy (SB:Nat->bL) (used s n:Nat):List bL:=((List.range' s n).filter fun k=>decide (k<used)).map SB
theorem Jp (SB:Nat->bL) (used s m n:Nat):iy SB used s (m+n)=iy SB used s m++iy SB used (s+m) n:=by
 unfold iy;rw[<-dL,<-zQ,List.range'_append_1]
theorem Pq (SB:Nat->bL) (used s n:Nat) (h:used<=s):iy SB used s n=[]:=by
 unfold iy;rw[List.filter_eq_nil_iff.2 fun k hk=>?_]
 ·rfl
 ·rw[List.mem_range'_1]at hk
  rw[bc];omega
structure JD (K:bA) (SB:Nat->bL) (used:Nat):Prop where
 u:K.sup.used=(used:Int)
 ok: ∀k,k<used->tf K.sup (SB k)=true
theorem ZnO {K:bA} {SB:Nat->bL} {used:Nat} (hS:JD K SB used): ∀(l:List bL) (s:Nat) (v:aW),(∀i x,l[i]? =some x->x=if s+i<used then SB (s+i)else lL)->
  lu K (s:Int) l v=some { v with aw:=v.aw++iy SB used s l.length }
 |[],s,v,_=>by
  unfold iy;simp[lu]
 |x::r,s,v,h=>by
  have hx:=h 0 x rfl;rw[dG]at hx;have ih:=fun v=>ZnO hS r (s+1) v fun i y hy=>by
   have:=h (i+1) y (by simpa using hy);rw[show s+(i+1)=s+1+i by omega]at this;exact this
  unfold lu oy;rw[hS.u];have hsg:iy SB used s (x::r).length=(if s<used then[SB s]else[])++iy SB used (s+1) r.length:=by
   rw[dF,show r.length+1=1+r.length by omega,Jp];congr 1;unfold iy;rw[List.range'_one];by_cases hs:s<used
   ·rw[aG hs]
    simp[hs]
   ·rw[ax hs]
    simp[hs]
  rw[hsg];by_cases hs:s<used
  ·rw[aG hs]at hx
   subst hx;rw[ao (show ¬(s:Int)>=(used:Int) by omega),cond_false,hS.ok s hs,cond_true,aG hs];simp only;rw[show((s:Int)+1)=((s+1:Nat):Int) by omega,ih];simp[dD]
  ·rw[ax hs]at hx
   subst hx;rw[ah (show(s:Int)>=(used:Int) by omega),cond_true,show yy lL=true from rfl,cond_true,ax hs];simp only;rw[show((s:Int)+1)=((s+1:Nat):Int) by omega,ih];simp
structure PG (K:bA) (SB:Nat->bL) (used a nl:Nat):Prop where
 two:2<=a
 top:a+nl<=K.m
 all:used<=7*nl
 at': ∀t,t<nl->∃l,ZK (dR K.img (a+t))= .leaf l/\l.length=7/\∀i x,l[i]? =some x->x=if 7*t+i<used then SB (7*t+i)else lL
theorem OW {K:bA} {SB:Nat->bL} {used a nl:Nat} (hS:JD K SB used) (hL:PG K SB used a nl) (x5:Nat): ∀(l:List Int) (k:Nat) (v:aW) (P:Nat->Prop),(∀i y,l[i]? =some y->y=if 16*x5+k+i<nl then((a+(16*x5+k+i):Nat):Int)else 0)->
  Mem K.m v.W P->(∀b,eE (a+(16*x5+k)) (a+min (16*x5+k+l.length) nl) b->¬P b)->
  ∃W',jt K (nl:Int) (x5:Int) (k:Int) l v=some { v with W:=W',aw:=v.aw++iy SB used (7*(16*x5+k)) (7*l.length) } /\Mem K.m W' (fun b=>P b\/eE (a+(16*x5+k)) (a+min (16*x5+k+l.length) nl) b)
 |[],k,v,P,_,hM,_=>by
  refine⟨v.W,?_,hM.congr fun b=>?_⟩
  ·unfold iy
   simp[jt]
  ·unfold eE
   constructor
   ·exact .inl
   ·rintro(h|h)
    ·exact h
    ·simp only[uk]at h
     omega
 |y::r,k,v,P,h,hM,hP=>by
  have hy:=h 0 y rfl;rw[dG]at hy;have h': ∀i z,r[i]? =some z->z=if 16*x5+(k+1)+i<nl then((a+(16*x5+(k+1)+i):Nat):Int)else 0:=fun i z hz=>by
   have:=h (i+1) z (by simpa using hz);rw[show 16*x5+k+(i+1)=16*x5+(k+1)+i by omega]at this;exact this
  have hlen:(y::r).length=r.length+1:=rfl;have Ek:iy SB used (7*(16*x5+k)) (7*(y::r).length)=iy SB used (7*(16*x5+k)) 7++iy SB used (7*(16*x5+(k+1))) (7*r.length):=by
   rw[hlen,show 7*(r.length+1)=7+7*r.length by omega,Jp,show 7*(16*x5+k)+7=7*(16*x5+(k+1)) by omega]
  rw[hlen]at hP⊢;unfold jt;by_cases hi:16*x5+k<nl
  ·rw[aG hi]at hy
   subst hy;have bn:(!((((a+(16*x5+k):Nat):Int))==0))=true:=by
    have:=hL.two;rw[cx.2 (by omega)];rfl
   rw[bn,ah (show(x5:Int)*16+(k:Int)<(nl:Int) by omega),show(true==true)=true from rfl,cond_true,cond_true];have h1:=hL.two;have h2:=hL.top;obtain⟨t1,t2⟩:=AP hM (k:=a+(16*x5+k)) (by omega) (by omega) (hP _ ⟨ay _,by omega⟩);obtain⟨lf,f1,f2,f3⟩:=hL.at' (16*x5+k) hi;rw[f1]at t1;have hlg:=ZnO hS lf (7*(16*x5+k)) { v with W:=da K.m v.W ((a+(16*x5+k):Nat):Int) } f3;have KZ:kQ K ((a+(16*x5+k):Nat):Int) (((x5:Int)*16+(k:Int))*7) v=some { v with W:=da K.m v.W ((a+(16*x5+k):Nat):Int),aw:=v.aw++iy SB used (7*(16*x5+k)) 7 } :=by
    unfold kQ;rw[t1];simp only;rw[show((x5:Int)*16+(k:Int))*7=((7*(16*x5+k):Nat):Int) by omega,hlg,f2]
   rw[KZ];simp only;obtain⟨W',w1,w2⟩:=OW hS hL x5 r (k+1) { v with W:=da K.m v.W ((a+(16*x5+k):Nat):Int),aw:=v.aw++iy SB used (7*(16*x5+k)) 7 } (fun b=>P b\/b=a+(16*x5+k)) h' t2 (fun b hb=>by
    rintro(h3|h3)
    ·exact hP b ⟨by have:=hb.1;omega,by have:=hb.2;omega⟩ h3
    ·have:=hb.1;omega)
   refine⟨W',?_,w2.congr fun b=>?_⟩
   ·rw[show((k:Int)+1)=((k+1:Nat):Int) by omega,w1,hlen.symm,Ek]
    simp[dD]
   ·unfold eE
    constructor
    ·rintro((h3|h3)|h3)
     ·exact .inl h3
     ·exact .inr (by omega)
     ·exact .inr (by omega)
    ·rintro(h3|h3)
     ·exact .inl (.inl h3)
     ·by_cases hb:b=a+(16*x5+k)
      ·exact .inl (.inr hb)
      ·exact .inr (by omega)
  ·rw[ax hi]at hy
   subst hy;rw[show(!((0:Int)==0))=false from rfl,ao (show ¬(x5:Int)*16+(k:Int)<(nl:Int) by omega),show(false==false)=true from rfl,cond_true,cond_false];obtain⟨W',w1,w2⟩:=OW hS hL x5 r (k+1) v P h' hM (fun b hb=>by have:=hb.1;have:=hb.2;omega);refine⟨W',?_,w2.congr fun b=>?_⟩
   ·have:=hL.all
    rw[show((k:Int)+1)=((k+1:Nat):Int) by omega,w1,hlen.symm,Ek,Pq SB used _ 7 (by omega),fe]
   ·unfold eE
    constructor
    ·rintro(h3|h3)
     ·exact .inl h3
     ·omega
    ·rintro(h3|h3)
     ·exact .inl h3
     ·omega
structure Zyu (K:bA) (a nl b:Nat):Prop where
 ge:a+nl<=b
 top:b+(nl+15)/16<=K.m
 at': ∀j,16*j<nl->∃l,ZK (dR K.img (b+j))= .cE l/\l.length=16/\∀i y,l[i]? =some y->y=if 16*j+i<nl then((a+(16*j+i):Nat):Int)else 0
theorem OL {K:bA} {SB:Nat->bL} {used a nl b:Nat} (hS:JD K SB used) (hL:PG K SB used a nl) (hF:Zyu K a nl b): ∀(l:List Int) (k:Nat) (v:aW) (P:Nat->Prop),l.length+k=16->nl<=256->(∀i y,l[i]? =some y->y=if 16*(k+i)<nl then((b+(k+i):Nat):Int)else 0)->
  Mem K.m v.W P->(∀x,eE (b+k) (b+(nl+15)/16) x\/eE (a+16*k) (a+nl) x->¬P x)->
  ∃W',mb K (nl:Int) (k:Int) l v=some { v with W:=W',aw:=v.aw++iy SB used (112*k) (112*l.length) } /\Mem K.m W' (fun x=>P x\/(eE (b+k) (b+(nl+15)/16) x\/eE (a+16*k) (a+nl) x))
 |[],k,v,P,hk,hn,_,hM,_=>by
  refine⟨v.W,?_,hM.congr fun x=>?_⟩
  ·unfold iy
   simp[mb]
  ·unfold eE
   have:k=16:=by simpa using hk
   constructor
   ·exact .inl
   ·rintro(h|h|h)
    ·exact h
    ·omega
    ·omega
 |y::r,k,v,P,hk,hn,h,hM,hP=>by
  have hy:=h 0 y rfl;rw[dG]at hy;have h': ∀i z,r[i]? =some z->z=if 16*(k+1+i)<nl then((b+(k+1+i):Nat):Int)else 0:=fun i z hz=>by
   have:=h (i+1) z (by simpa using hz);rw[show k+(i+1)=k+1+i by omega]at this;exact this
  have hlen:(y::r).length=r.length+1:=rfl;have Ek:iy SB used (112*k) (112*(y::r).length)=iy SB used (112*k) 112++iy SB used (112*(k+1)) (112*r.length):=by
   rw[hlen,show 112*(r.length+1)=112+112*r.length by omega,Jp,show 112*k+112=112*(k+1) by omega]
  rw[hlen]at hk;have g1:=hL.two;have g2:=hL.top;have g3:=hF.ge;have g4:=hF.top;have g5:=hL.all;unfold mb;by_cases hi:16*k<nl
  ·rw[aG hi]at hy
   subst hy;have bn:(!((((b+k:Nat):Int))==0))=true:=by
    rw[cx.2 (by omega)];rfl
   have Si:((((b+k:Nat):Int))==0)=false:=cx.2 (by omega);rw[bn,ah (show(k:Int)*16<(nl:Int) by omega),show(true==true)=true from rfl,cond_true,Si,cond_false];obtain⟨t1,t2⟩:=AP hM (k:=b+k) (by omega) (by omega) (hP _ (.inl ⟨ay _,by omega⟩));obtain⟨lf,f1,f2,f3⟩:=hF.at' k hi;rw[f1]at t1;rw[t1];simp only;obtain⟨W2,u1,u2⟩:=OW hS hL k lf 0 { v with W:=da K.m v.W ((b+k:Nat):Int) } (fun x=>P x\/x=b+k) (fun i z hz=>by
    have:=f3 i z hz;rw[dG];exact this) t2 (fun x hx=>by
    have h1:=hx.1;have h2:=hx.2;rintro(h3|h3)
    ·exact hP x (.inr ⟨by omega,by omega⟩) h3
    ·omega)
   rw[f2]at u1 u2;rw[show(0:Int)=((0:Nat):Int)from rfl,u1];simp only;obtain⟨W',w1,w2⟩:=OL hS hL hF r (k+1) { v with W:=W2,aw:=v.aw++iy SB used (7*(16*k+0)) (7*16) } (fun x=>(P x\/x=b+k)\/eE (a+(16*k+0)) (a+min (16*k+0+16) nl) x) (by omega) hn h' u2 (fun x hx=>by
    have Ll:(b+(k+1)<=x/\x<b+(nl+15)/16)\/(a+16*(k+1)<=x/\x<a+nl):=hx;rintro((h3|h3)|h3)
    ·refine hP x ?_ h3
     rcases Ll with h4|h4
     ·exact .inl ⟨by omega,h4.2⟩
     ·exact .inr ⟨by omega,h4.2⟩
    ·omega
    ·have h5:=h3.1
     have h6:=h3.2;omega)
   refine⟨W',?_,w2.congr fun x=>?_⟩
   ·rw[show((k:Int)+1)=((k+1:Nat):Int) by omega,w1,Ek]
    rw[show 7*(16*k+0)=112*k by omega];simp[dD]
   ·unfold eE
    constructor
    ·rintro(((h3|h3)|h3)|h3)
     ·exact .inl h3
     ·exact .inr (.inl (by omega))
     ·exact .inr (.inr (by omega))
     ·rcases h3 with h3|h3
      ·exact .inr (.inl (by omega))
      ·exact .inr (.inr (by omega))
    ·rintro(h3|h3|h3)
     ·exact .inl (.inl (.inl h3))
     ·by_cases hb:x=b+k
      ·exact .inl (.inl (.inr hb))
      ·exact .inr (.inl (by omega))
     ·by_cases hb:x<a+(16*k+16)
      ·exact .inl (.inr (by omega))
      ·exact .inr (.inr (by omega))
  ·rw[ax hi]at hy
   subst hy;rw[show(!((0:Int)==0))=false from rfl,ao (show ¬(k:Int)*16<(nl:Int) by omega),show(false==false)=true from rfl,cond_true,show((0:Int)==0)=true from rfl,cond_true];obtain⟨W',w1,w2⟩:=OL hS hL hF r (k+1) v P (by omega) hn h' hM (fun x hx=>by
    have Ll:(b+(k+1)<=x/\x<b+(nl+15)/16)\/(a+16*(k+1)<=x/\x<a+nl):=hx;omega)
   refine⟨W',?_,w2.congr fun x=>?_⟩
   ·rw[show((k:Int)+1)=((k+1:Nat):Int) by omega,w1,Ek,Pq SB used _ 112 (by omega),fe]
   ·unfold eE
    constructor
    ·rintro(h3|h3|h3)
     ·exact .inl h3
     ·omega
     ·omega
    ·rintro(h3|h3|h3)
     ·exact .inl h3
     ·omega
     ·omega
end Go.Gv.F
namespace Go.Gv.F
open Go.Gv
theorem ZvY {u:Nat} (h:u<=1792):wq (u:Int)=(((u+6)/7:Nat):Int):=by
 unfold wq lN;rw[ah (show(u:Int)>=0 by omega),ah (show(u:Int)<=1792 by omega),vQ,cond_true,Zb (x:=(u:Int)+7) (by omega) (by omega),Zb (x:=(u:Int)+7-1) (by omega) (by omega),show((u:Int)+7-1)=((u+6:Nat):Int) by omega,show(((u+6:Nat):Int).tdiv 7)=(((u+6)/7:Nat):Int)from rfl];exact Zb (by omega) (by omega)
theorem ZoZ (a n i:Nat) (h:i<n):(Zt a n)[i]? =some ((a+i:Nat):Int):=by
 unfold Zt;rw[gL,og h];rfl
theorem Zv7 (a n i:Nat) (h:i<n):(Zt a n).getD i 0=((a+i:Nat):Int):=by
 rw[bJ,ZoZ a n i h];rfl
theorem ZzS (SB:Nat->bL) (used n:Nat) (h:used<=n):iy SB used 0 n=(List.range used).map SB:=by
 have e:n=used+(n-used):=by omega
 rw[e,Jp,Pq SB used (0+used) (n-used) (by omega),ez];unfold iy;rw[List.filter_eq_self.2 fun k hk=>?_,Fy];rw[List.mem_range'_1]at hk;rw[bc];omega
theorem ZrZ (gens At free:List Int) (f i:Nat) (x:bL) (h:(jo gens At free f)[i]? =some x):x=if f+i<gens.length then ew gens At free (f+i)else lL:=by
 have hi:i<7:=by
  have:=(cd.1 h).1;unfold jo at this;rw[sX]at this;exact this
 unfold jo at h;rw[OZ _ _ _ _ _ _ hi,ah hi,cI]at h;by_cases hf:f+i<gens.length
 ·rw[ah hf,cond_true]at h
  rw[aG hf];exact(sP h).symm
 ·rw[ao hf,cond_false]at h
  rw[ax hf];exact(sP h).symm
theorem Zxq {gens At free:List Int} (hR: ∀k,k<gens.length->nX (ew gens At free k)=true) (f:Nat):(iX (ot (jo gens At free f))).length=64/\ZK (iX (ot (jo gens At free f)))= .leaf (jo gens At free f)/\(jo gens At free f).length=7:=by
 have hl:(jo gens At free f).length=7:=by unfold jo;exact sX _ _ _ _ _
 obtain⟨s,h1,h2,h3⟩:=ZuO hl (gv.2 fun x hx=>by
  obtain⟨i,hi⟩:=zV.1 hx;rw[ZrZ _ _ _ _ _ _ hi];split
  ·rename_i h
   exact hR _ h
  ·rfl)
 rw[h1];exact⟨h2,h3,hl⟩
theorem Zxf {K:bA} {gens free:List Int} {m:bp} {v:aW} {P:Nat->Prop}
  (hF:Fin K.img (ix gens free m).2) (hb:(ix gens free m).2.next<=K.m) (h3:K.m<=3072) (h2:2<=m.next) (hg:gens.length<=1792)
  (hR: ∀k,k<gens.length->nX (ew gens m.At free k)=true) (hu:K.sup.used=(gens.length:Int)) (hf:K.sup.cE=((ix gens free m).1:Int))
  (hS: ∀k,k<gens.length->tf K.sup (ew gens m.At free k)=true) (hM:Mem K.m v.W P) (hP: ∀b,eE m.next (ix gens free m).2.next b->¬P b):
  ∃W',nu K v=some { v with W:=W',aw:=v.aw++(List.range gens.length).map (ew gens m.At free) } /\Mem K.m W' (fun b=>P b\/eE m.next (ix gens free m).2.next b):=by
 obtain⟨SB,uZ⟩: ∃SB,ew gens m.At free=SB:=⟨_,rfl⟩;have lI:=Zxq hR;by_cases h0:gens.length=0
 ·have:gens=[]:=pd.1 h0
  subst this;have e:ix [] free m=(0,m):=rfl;rw[e];unfold nu;rw[hu];refine⟨v.W,?_,hM.congr fun b=>?_⟩
  ·simp
  ·unfold eE
   constructor
   ·exact .inl
   ·rintro(h|h)
    ·exact h
    ·simp only at h
     omega
 ·obtain⟨l1,l2,l3,l4⟩:=ZvN (gens:=gens) (free:=free) (B:=K.img) gens.length 0 [] m (by omega) (by omega) (fun g=>(lI g).1)
  have mQ:=Ex.fB gens free gens.length 0 [] m;obtain⟨R,hR0⟩: ∃R,fB gens free gens.length 0 [] m=R:=⟨_,rfl⟩;rw[hR0]at l1 l2 l3 l4 mQ;rw[fe,qy]at l1;rw[qy]at l2 l4;obtain⟨nl,xf⟩: ∃nl,(gens.length+6)/7=nl:=⟨_,rfl⟩;rw[xf]at l1 l2 l4;have DA:R.1.length=nl:=by rw[l1,Z0]
  obtain⟨T,Rg⟩: ∃T,gy R.1 16 0 (List.replicate 16 0) R.2=T:=⟨_,rfl⟩;have nS:=Ex.gy R.1 16 0 (List.replicate 16 0) R.2;have e:ix gens free m=(T.2.next,eJ T.2 (iX (kH T.1))):=by
   unfold ix;rw[hR0];simp only;rw[show Nat.beq R.1.length 0=false by
    rw[DA];cases nl with
    |zero=>omega
    |succ k=>rfl,cond_false,Rg]
  rw[e]at hF hb hf hP⊢;have hn:(eJ T.2 (iX (kH T.1))).next=T.2.next+1:=rfl;rw[hn]at hb hP;simp only at hF hf;rw[Rg]at nS;have hle:=nS.le;have Kt:=hF.back (Ex.put _ _);have hFR:=Kt.back nS;have eC: ∀j,(∀k∈iP R.1 j,k=0\/2<=k/\k<3072)/\(iP R.1 j).length=16/\∀i y,(iP R.1 j)[i]? =some y->y=if 16*j+i<nl then((m.next+(16*j+i):Nat):Int)else 0:=fun j=>by
   have hlen:(iP R.1 j).length=16:=by unfold iP;exact yj _ _ _
   have cJ: ∀i y,(iP R.1 j)[i]? =some y->y=if 16*j+i<nl then((m.next+(16*j+i):Nat):Int)else 0:=fun i y hy=>by
    have hi:i<16:=by
     have:=(cd.1 hy).1;omega
    unfold iP at hy;rw[PD _ _ _ _ hi,ah hi,cI,DA]at hy;by_cases hj:16*j+i<nl
    ·rw[ah hj,cond_true,l1,Zv7 _ _ _ hj]at hy
     rw[aG hj];exact(sP hy).symm
    ·rw[ao hj,cond_false]at hy
     rw[ax hj];exact(sP hy).symm
   refine⟨fun k hk=>?_,hlen,cJ⟩;obtain⟨i,hi⟩:=zV.1 hk;rw[cJ i k hi];split
   ·right;omega
   ·exact .inl rfl
  have fR: ∀j,(iX (kH (iP R.1 j))).length=64/\ZK (iX (kH (iP R.1 j)))= .cE (iP R.1 j):=fun j=>by
   obtain⟨s,a1,a2,a3⟩:=Zu6 (eC j).2.1 (eC j).1;rw[a1];exact⟨a2,a3⟩
  obtain⟨f1,f2,f3,f4,f5⟩:=ZrU (leaves:=R.1) (B:=K.img) 16 0 (List.replicate 16 0) R.2 (by omega) (by omega) (by simp) (by omega) (fun g=>(fR g).1) (fun j _=>by
   rw[bJ,zS];split<;>rfl)
  rw[Rg]at f1 f2 f3 f4 f5;rw[DA,l2]at f1;rw[qy]at f1;have f5:=f5 Kt;have l4:=l4 hFR;rw[DA,l2]at f5;have VF:(∀k∈T.1,k=0\/2<=k/\k<3072)/\∀i y,T.1[i]? =some y->y=if 16*i<nl then((m.next+nl+i:Nat):Int)else 0:=by
   have cJ: ∀i y,T.1[i]? =some y->y=if 16*i<nl then((m.next+nl+i:Nat):Int)else 0:=fun i y hy=>by
    have:=f4 i;rw[bJ,hy,ax (uu i),DA,l2,qy]at this;exact this
   refine⟨fun k hk=>?_,cJ⟩;obtain⟨i,hi⟩:=zV.1 hk;have KO:i<16:=by
    have:=(cd.1 hi).1;omega
   rw[cJ i k hi];split
   ·right;omega
   ·exact .inl rfl
  obtain⟨s,a1,a2,a3⟩:=Zu6 f3 VF.1;have hs:iX (kH T.1)=s:=by rw[a1];rfl
  rw[hs]at hF;have xd:=hF.put a2 (by omega);have hSI:JD K SB gens.length:=⟨hu,fun k hk=>by rw[<-uZ];exact hS k hk⟩;have hLA:PG K SB gens.length m.next nl:=⟨h2,by omega,by omega,fun t ht=>by
   have:=l4 t ht;rw[dj]at this;rw[this];refine⟨_,(lI _).2.1,(lI _).2.2,fun i x hx=>?_⟩;rw[ZrZ _ _ _ _ _ _ hx,uZ]⟩
  have hFA:Zyu K m.next nl (m.next+nl):=⟨ay _,by omega,fun j hj=>by
   have:=f5 j (by omega) hj;rw[qy]at this;rw[this];exact⟨_,(fR j).2,(eC j).2.1,(eC j).2.2⟩⟩
  obtain⟨t1,t2⟩:=AP hM (k:=T.2.next) (by omega) (by omega) (hP _ ⟨by omega,by omega⟩);rw[xd,a3]at t1;obtain⟨W',w1,w2⟩:=OL hSI hLA hFA T.1 0 { v with W:=da K.m v.W ((T.2.next:Nat):Int) } (fun b=>P b\/b=T.2.next) (by omega) (by omega) (fun i y hy=>by
   rw[dj];exact VF.2 i y hy) t2 (fun x hx=>by
   rintro(h|h)
   ·refine hP x ?_ h
    unfold eE at hx⊢;omega
   ·unfold eE at hx
    omega)
  refine⟨W',?_,w2.congr fun b=>?_⟩
  ·unfold nu
   rw[hf,t1,hu,cx.2 (show((gens.length:Nat):Int)≠0 by omega),cond_false];simp only;rw[ZvY hg,xf,show(0:Int)=((0:Nat):Int)from rfl,w1,f3,ZzS SB _ _ (by omega),uZ]
  ·unfold eE
   rw[hn];constructor
   ·rintro((h|h)|h)
    ·exact .inl h
    ·exact .inr (by omega)
    ·exact .inr (by omega)
   ·rintro(h|h)
    ·exact .inl (.inl h)
    ·by_cases pN:b=T.2.next
     ·exact .inl (.inr pN)
     ·exact .inr (by omega)
end Go.Gv.F
namespace Go.Gv.F
open Go.Gv
def Pl (m m':bp) (e:bm):Prop:=(m.next:Int)<=m'.At.getD e.slot.toNat 0/\m'.At.getD e.slot.toNat 0<(m'.next:Int)
structure NS (n:Nat) (es:List bm):Prop where
 nd:(es.map (·.slot.toNat)).Nodup
 lt: ∀e∈es,e.slot.toNat<n
theorem NS.sub {n:Nat} {es gO:List bm} (h:NS n es) (k:gO.Sublist es):NS n gO:=⟨List.Nodup.sublist (k.map _) h.nd,fun e he=>h.lt e (k.subset he)⟩
theorem NS.two {n:Nat} {A B:List bm} (h:NS n (A++B)) {e:bm} (he:e∈A): ∀e'∈B,e'.slot.toNat≠e.slot.toNat:=fun e' nI hc=>by
 have:=h.nd;rw[dL,hY]at this;exact this.2.2 _ (dP.2 ⟨e,he,rfl⟩) _ (dP.2 ⟨e',nI,rfl⟩) hc.symm
theorem ZyW {j:Nat} {es:List bm} {m:bp} (hl:es.length=2^j) (hn:NS m.At.length es) (hk: ∀e∈es.drop 1,Pl m (bN j es m).2 e): ∀e∈es,Pl m (eX j es m).2 e:=by
 cases es with
 |nil=>intro e he;cases he
 |cons e0 t=>
  intro e he;have hex:=(Ex.kids j (e0::t) m).le;have fY:(bN j (e0::t) m).2.At.length=m.At.length:=(rN j (e0::t) m).2.1;have h1:(eX j (e0::t) m).2.next=(bN j (e0::t) m).2.next+1:=rfl;have h2:(eX j (e0::t) m).2.At=(bN j (e0::t) m).2.At.set e0.slot.toNat ((bN j (e0::t) m).2.next:Int):=rfl;unfold Pl;rw[h1,h2];rcases bX.1 he with rfl|he
  ·rw[bJ,fJ (by rw[fY];exact hn.lt e jZ)]
   simp only[sO];omega
  ·obtain⟨k1,k2⟩:=hk e he
   have bn:e0.slot.toNat≠e.slot.toNat:=fun hc=>NS.two (A:=[e0]) (B:=t) hn jZ e he hc.symm
   rw[bJ,eu bn,<-bJ];omega
theorem P2: ∀(j:Nat) (es:List bm) (m:bp),2^j<=es.length->NS m.At.length (es.take (2^j))->∀e∈(es.take (2^j)).drop 1,Pl m (bN j es m).2 e
 |0,es,m,_,_,e,he=>by
  cases es with
  |nil=>cases he
  |cons a t=>cases he
 |j+1,es,m,hl,hn,e,he=>by
  have e2:2^(j+1)=2^j+2^j:=by rw[nb];omega
  have hp:=nc j;obtain⟨jb,tD⟩: ∃jb,(es.drop (2^j)).take (2^j)=jb:=⟨_,rfl⟩;obtain⟨m1,eH⟩: ∃m1,(bN j es m).2=m1:=⟨_,rfl⟩;have hk:(bN (j+1) es m).2=(eX j jb m1).2:=by rw[<-eH,<-tD];rfl
  have eR:es.take (2^(j+1))=es.take (2^j)++jb:=by rw[e2,B3,tD]
  have kh:jb.length=2^j:=by rw[<-tD,bW,dt];omega
  have mQ:Ex m m1:=by rw[<-eH];exact Ex.kids j es m
  have nS:=Ex.tree j jb m1;have le1:=mQ.le;have le2:=nS.le;have fY:m1.At.length=m.At.length:=by rw[<-eH];exact(rN j es m).2.1
  rw[eR]at hn he;rw[hk];rw[Fu (by rw[bW];omega)]at he;rcases cW.1 he with he|he
  ·have h1:=P2 j es m (by omega) (hn.sub (List.sublist_append_left _ _)) e he
   rw[eH]at h1;unfold Pl at h1⊢;rw[Py j jb m1 _ (hn.two (sK he))];omega
  ·have mN:NS m1.At.length jb:=by rw[fY];exact hn.sub (List.sublist_append_right _ _)
   have gB:jb.take (2^j)=jb:=cA (by omega);have h1:=ZyW kh mN (fun e he=>by
    have:=P2 j jb m1 (by omega) (by rw[gB];exact mN) e (by rw[gB];exact he);exact this) e he
   unfold Pl at h1⊢;omega
theorem ZAB {j:Nat} {es:List bm} {m:bp} (hl:es.length=2^j) (hn:NS m.At.length es): ∀e∈es,Pl m (eX j es m).2 e:=
 have ht:es.take (2^j)=es:=cA (by omega)
 ZyW hl hn fun e he=>P2 j es m (by omega) (by rw[ht];exact hn) e (by rw[ht];exact he)
theorem Pd {cnt:Nat} : ∀(c k:Nat) (hs:List Int) (rest:List bm) (m:bp),k+c=12->rest.length=cnt/2^k*2^k->cnt<4096->NS m.At.length rest->∀e∈rest,Pl m (dw cnt c k hs rest m).2 e
 |0,k,hs,rest,m,hk,hr,hc,_,e,he=>by
  have hk:k=12:=by omega
  subst hk;rw[Nat.div_eq_of_lt (show cnt<2^12 by omega)]at hr;rw[pd.1 (show rest.length=0 by omega)]at he;cases he
 |c+1,k,hs,rest,m,hk,hr,hc,hn,e,he=>by
  have hp:=nc k;have pQ:=ZwV cnt k;unfold dw;cases hb:dM cnt k with
  |false=>
   rw[cond_false];unfold dM at hb;rw[j3]at hb;rw[ax hb]at pQ;exact Pd c (k+1) hs rest m (by omega) (by omega) hc hn e he
  |true=>
   rw[cond_true];unfold dM at hb;rw[bc]at hb;rw[aG hb]at pQ;have eR:rest=rest.take (2^k)++rest.drop (2^k):=(lj _ _).symm;have aj:(rest.take (2^k)).length=2^k:=by rw[bW];omega
   obtain⟨T,hT⟩: ∃T,eX k (rest.take (2^k)) m=T:=⟨_,rfl⟩;have mQ:Ex m T.2:=by rw[<-hT];exact Ex.tree k _ m
   have fY:T.2.At.length=m.At.length:=by rw[<-hT];exact(IA k _ m).2.1
   have nS:=Ex.dw cnt c (k+1) (hs.set k (T.1:Int)) (rest.drop (2^k)) T.2;have le1:=mQ.le;have le2:=nS.le;simp only;rw[hT];rw[eR]at he hn;rcases cW.1 he with he|he
   ·have h1:=ZAB aj (hn.sub (List.sublist_append_left _ _)) e he
    rw[hT]at h1;unfold Pl at h1⊢;rw[CP cnt c (k+1) _ _ T.2 _ (hn.two he)];omega
   ·have h1:=Pd c (k+1) (hs.set k (T.1:Int)) (rest.drop (2^k)) T.2 (by omega) (by rw[dt];omega) hc (by rw[fY];exact hn.sub (List.sublist_append_right _ _)) e he
    unfold Pl at h1⊢;omega
theorem Zvj: ∀(l:List cN) (db:List Int) (m:bp),(∀h∈l,h.aN.length<4096)->NS m.At.length (l.map (·.aN)).flatten->∀e∈(l.map (·.aN)).flatten,Pl m (eO l db m).2 e
 |[],_,_,_,_,e,he=>by cases he
 |x::r,db,m,h4,hn,e,he=>by
  rw[gM,mo]at hn he;obtain⟨T,hT⟩: ∃T,roots x.aN m=T:=⟨_,rfl⟩;have mQ:Ex m T.2:=by rw[<-hT];exact Ex.dw _ 12 0 _ _ m
  have fY:T.2.At.length=m.At.length:=by rw[<-hT];exact(CA x.aN m).2.1
  obtain⟨m2,dr⟩: ∃m2,eJ T.2 (oQ ⟨x.name,x.aN.length,T.1⟩)=m2:=⟨_,rfl⟩;have nS:Ex T.2 m2:=by rw[<-dr];exact Ex.put _ _
  have U7:m2.At=T.2.At:=by rw[<-dr];rfl
  have hE:eO (x::r) db m=eO r (db++[(T.2.next:Int)]) m2:=by
   unfold eO;simp only;rw[hT,dr];cases r<;>rfl
  have Eu:=Ex.eO r (db++[(T.2.next:Int)]) m2;have le1:=mQ.le;have le2:=nS.le;have le3:=Eu.le;rw[hE];rcases cW.1 he with he|he
  ·have h1:=Pd (cnt:=x.aN.length) 12 0 (List.replicate 12 0) x.aN m rfl (by simp) (h4 x jZ) (hn.sub (List.sublist_append_left _ _)) e he
   have h2:Pl m T.2 e:=by rw[<-hT];exact h1
   unfold Pl at h2⊢;rw[IQ r _ m2 _ (hn.two he),U7];omega
  ·have h1:=Zvj r (db++[(T.2.next:Int)]) m2 (fun h hh=>h4 h (lT _ hh)) (by rw[U7,fY];exact hn.sub (List.sublist_append_right _ _)) e he
   unfold Pl at h1⊢;omega
end Go.Gv.F
namespace Go.Gv.F
open Go.Gv
theorem CK {k:Int} : ∀(l:List Int) (c:Int),k∉l->j9 k l c=c
 |[],_,_=>rfl
 |[_],_,_=>rfl
 |a::b::r,c,h=>by
  unfold j9;rw[cx.2 fun e=>h (by rw[e];exact jZ),cond_false];exact CK (b::r) c fun e=>h (lT _ e)
theorem IY {k:Int} (R:List Int) (c:Int): ∀(A:List Int),(A++k::R).Nodup->j9 k (A++k::R) c=match R with
  |[]=>c
  |b::_=>af (b+1)
 |[],h=>by
  cases R with
  |nil=>rfl
  |cons b r=>
   rw[fe]at h⊢;unfold j9;rw[gN,cond_true];exact CK _ _ (qo.1 h).1
 |[a],h=>by
  have hn:=(qo.1 h).1;show j9 k (a::k::R) c=_;unfold j9;rw[cx.2 fun e=>hn (by rw[e];exact jZ),cond_false];exact IY R c [] (qo.1 h).2
 |a::b::A,h=>by
  have hn:=(qo.1 h).1;show j9 k (a::b::(A++k::R)) c=_;unfold j9;rw[cx.2 fun e=>hn (by rw[e];simp),cond_false];exact IY R c (b::A) (qo.1 h).2
structure Qm (K:bA) (gens At free:List Int) (used:Nat):Prop where
 u:K.sup.used=(used:Int)
 le:used<=1792
 ok: ∀k∈free,0<=k/\k<(used:Int)/\At.getD k.toNat 0=0/\gens.getD k.toNat 0<K.sup.g
 nd:free.Nodup
theorem Zps {K:bA} {gens At free:List Int} {used:Nat} (hI:Qm K gens At free used): ∀(R A:List Int) (fl:List Bool) (v:aW) (f:Nat),free=A++R->R.length<f->v.aw=(List.range used).map (ew gens At free)->fl.length=used->
  (∀j,j<used->fl.getD j false=decide ((j:Int)∈A))->∃yC,np K f fl (rZ R) v=some (yC, { v with free:=v.free++R })/\∀j,j<used->yC.getD j false=decide ((j:Int)∈free)
 |[],A,fl,v,f,hA,hf,_,_,eC=>by
  obtain⟨f,rfl⟩: ∃g,f=g+1:=⟨f-1,by simp at hf;omega⟩;rw[ez]at hA;refine⟨fl,?_,fun j hj=>by rw[hA];exact eC j hj⟩;unfold np rZ;rw[gN,cond_true,ez]
 |k::r,A,fl,v,f,hA,hf,hv,Xv,eC=>by
  obtain⟨f,rfl⟩: ∃g,f=g+1:=⟨f-1,by simp at hf;omega⟩;have hk:k∈free:=by rw[hA];simp
  obtain⟨k0,k1,k2,k3⟩:=hI.ok k hk;have hle:=hI.le;obtain⟨n,rfl⟩: ∃n:Nat,k=(n:Int):=⟨k.toNat,by omega⟩;rw[aX]at k2 k3;have cZ:=hI.nd;rw[hA]at cZ;have hh:rZ ((n:Int)::r)=(n:Int)+1:=by
   show af ((n:Int)+1)=_;exact Zb (by omega) (by omega)
  have xp:v.aw[n]? =some (ew gens At free n):=by
   rw[hv,gL,og (by omega)];rfl
  have D1:(ew gens At free n).live=false:=by
   show(!(At.getD n 0==0))=false;rw[k2];rfl
  have RO:(ew gens At free n).gen=gens.getD n 0:=rfl;have hblk:(ew gens At free n).block=rZ r:=by
   show j9 (n:Int) free (At.getD n 0)=_;rw[k2];have h1:=IY (k:=(n:Int)) r 0 A cZ;rw[<-hA]at h1;rw[h1];cases r<;>rfl
  have Xu:fl.getD n false=false:=by
   rw[eC n (by omega)];refine ao fun h=>?_
   exact(hY.1 cZ).2.2 _ h _ jZ rfl
  obtain⟨yC,h1,h2⟩:=Zps hI r (A++[(n:Int)]) (fl.set n true) { v with free:=v.free++[(n:Int)] } f (by rw[hA,dD];rfl) (by simp at hf;omega) hv (by rw[hU];exact Xv) (fun j hj=>by
   rw[bJ];by_cases RY:n=j
   ·subst RY
    rw[fJ (by omega)];simp
   ·rw[eu RY,<-bJ,eC j hj]
    have:(j:Int)≠(n:Int):=by omega
    simp[this])
  refine⟨yC,?_,h2⟩;unfold np;rw[hh,cx.2 (show((n:Int)+1)≠0 by omega),cond_false,hI.u,ah (show(n:Int)+1<=(used:Int) by omega),cond_true,show((n:Int)+1-1).toNat=n by omega,xp];simp only;rw[D1,RO,ah k3,Xu];simp only[bD,cond_true];rw[hblk,show(n:Int)+1-1=(n:Int) by omega,h1,dD];rfl
theorem Zpq {K:bA} : ∀(l:List bL) (fl:List Bool),(∀i x,l[i]? =some x->AS K (fl.getD i false) x=true)->rU K fl l=true
 |[],_,_=>rfl
 |x::r,fl,h=>by
  unfold rU;rw[h 0 x rfl,cI];refine Zpq r _ fun i y hy=>?_
  have:=h (i+1) y (by simpa using hy);rw[bJ,lR,<-bJ,rH 1 i];exact this
theorem Zzi {K:bA} {gens At free:List Int} {used:Nat} (hI:Qm K gens At free used) {v:aW} (hv:v.aw=(List.range used).map (ew gens At free)) (hf:K.sup.free=rZ free) (hl:free.length<=used)
  (hr: ∀j,j<used->At.getD j 0≠0\/gens.getD j 0=K.sup.g\/(j:Int)∈free):qS K v=some { v with free:=v.free++free } :=by
 obtain⟨fl,h1,h2⟩:=Zps hI free [] (List.replicate used false) v (used+1) rfl (by omega) hv (by simp) (fun j hj=>by
  rw[bJ,zS];split<;>simp)
 unfold qS yq;rw[hI.u,aX,hf,h1];simp only;rw[Zpq,cond_true];intro i x hx;rw[hv,gL]at hx;have hi:i<used:=by
  rcases eM i used with h|h
  ·exact h
  ·rw[dT (by simp;omega)]at hx
   cases hx
 rw[og hi]at hx;cases hx;unfold AS;rcases hr i hi with h|h|h
 ·have:(ew gens At free i).live=true:=by
   show(!(At.getD i 0==0))=true;rw[cx.2 h];rfl
  rw[this];rfl
 ·have:(ew gens At free i).gen=K.sup.g:=h
  rw[this,gN];cases(ew gens At free i).live<;>rfl
 ·rw[h2 i hi,ah h]
  generalize (bif (ew gens At free i).live then true else(ew gens At free i).gen==K.sup.g)=b;cases b<;>rfl
end Go.Gv.F
namespace Go.Gv.F
open Go.Gv
structure Zyi (x:cT) (epoch:Int) (B:List UInt8):Prop where
 ok:uw (cM x epoch)
 room:(dY x).2.next+gH x<=x.blocks.toNat
 fin:Fin B (iZ (jX x) (gH x) 0 (dY x).2)
 len:B.length=64*x.blocks.toNat
theorem Zn2 {x:cT} {epoch place:Int} {B:List UInt8} {s:eU} (hb:tc x epoch place=some (B,s)):s=cM x epoch/\Zyi x epoch B:=by
 unfold tc at hb;cases hc:(decide (((jX x).length:Int)>x.blocks)|| !jM (cM x epoch))with
 |true=>rw[hc]at hb;cases hb
 |false=>
  rw[hc,cond_false]at hb;obtain⟨h1,h2⟩:=kZ.1 hc;rw[j3]at h1;have hS:uw (cM x epoch):=(Cy _).1 (by rw[<-Bool.not_eq_false'];exact h2);have xu:(jX x).length=(dY x).2.next+gH x:=Z0 _ _;have iC:x.blocks=(cM x epoch).blocks:=rfl;obtain⟨g1,g2,_⟩:=rM hS.g;rw[<-iC]at g1 g2;have hex:=Ex.all x;have hC:(iZ (jX x) (gH x) 0 (dY x).2).B.length=64*x.blocks.toNat:=by
   rw[hex.len];unfold gf ZR;simp
  have hp:=ZxI hS;have hk:=Znf (jX x) (gH x) 0 (dY x).2;obtain⟨C,hCd⟩: ∃C,iZ (jX x) (gH x) 0 (dY x).2=C:=⟨_,rfl⟩;rw[hCd]at hb hC hk;cases hb;have hn:(place%2).toNat<2:=by omega
  have hlen:(jA C.B (64*(place%2).toNat) (wE (cM x epoch))).length=C.B.length:=by
   unfold jA;simp only[bg,bW,dt];omega
  refine⟨rfl,hS,by omega,?_,by rw[hlen,hC]⟩;rw[hCd];refine⟨by rw[hC,hk.2];omega,fun k h2 h3=>?_⟩;exact Zxw (by omega) hp (by omega)
theorem Zw3 (n k:Nat):cR (List.replicate n 0) k=false:=by
 unfold cR dM;rw[bJ,zS];split<;>simp
theorem Zw5 {m:Nat} (h:16<=m):Mem m (gm m [0,1]) (fun b=>b=0\/b=1):=by
 have h0:(List.replicate ((m+63)/64) 0).length=(m+63)/64:=by simp
 have h1:(da m (List.replicate ((m+63)/64) 0) 0).length=(m+63)/64:=by rw[sV];exact h0
 refine⟨by show(da m (da m _ 0) 1).length=_;rw[sV];exact h1,AK (AK fun w hw=>by rw[List.mem_replicate]at hw;omega),fun b=>?_⟩;show cR (da m (da m (List.replicate ((m+63)/64) 0) 0) 1) b=true↔_;rw[wv h1,wv h0,Zw3];have m0:gG m 0=true:=by unfold gG;rw[ah (by omega),ah (by omega)];rfl
 have m1:gG m 1=true:=by unfold gG;rw[ah (by omega),ah (by omega)];rfl
 rw[m0,m1];simp
structure LW (x:cT) (A:List Int) (n:Nat):Prop where
 live: ∀e∈Zo x,2<=A.getD e.slot.toNat 0/\A.getD e.slot.toNat 0<(n:Int)
 dead: ∀k:Nat,(k:Int)∉(Zo x).map (·.slot)->A.getD k 0=0
theorem Zux {x:cT} (hm:jK x):NS x.gens.length (Zo x):=by
 have cZ:=(hY.1 hm.nodup).1;have pY: ∀e∈Zo x,0<=e.slot/\e.slot<(x.gens.length:Int):=fun e he=>hm.range _ (vS _ (dP.2 ⟨e,he,rfl⟩))
 refine⟨?_,fun e he=>by have:=pY e he;omega⟩;have:(Zo x).map (·.slot.toNat)=((Zo x).map (·.slot)).map Int.toNat:=by rw[xT];rfl
 rw[this];unfold List.Nodup at cZ⊢;rw[Fw];refine List.Pairwise.imp_of_mem (fun {a b} ha hb dc=>?_) cZ;obtain⟨e,he,rfl⟩:=dP.1 ha;obtain⟨e',nI,rfl⟩:=dP.1 hb;have h1:=pY e he;have h2:=pY e' nI;omega
theorem ZzC {x:cT} (hm:jK x):(Zo x).length<=x.gens.length:=by
 have:=EO x.gens.length ((Zo x).map (·.slot)) (hY.1 hm.nodup).1 fun k hk=>hm.range k (vS _ hk)
 rwa [lS]at this
theorem ZtK {x:cT} (hm:jK x) {h:cN} (hh:h∈x.aB):h.aN.length<=x.gens.length:=by
 refine fw ?_ (ZzC hm);obtain⟨A,B,hAB⟩:=List.append_of_mem hh;unfold Zo;rw[hAB];simp;omega
theorem WD {x:cT} (hm:jK x) (h4:x.gens.length<=1792):LW x (eO x.aB [] (gf x)).2.At (eO x.aB [] (gf x)).2.next:=by
 refine⟨fun e he=>?_,fun k hk=>?_⟩
 ·have:=Zvj x.aB [] (gf x) (fun h hh=>by have:=ZtK hm hh;omega) (by
   have hl:(gf x).At.length=x.gens.length:=by unfold gf;simp
   rw[hl];exact Zux hm) e he
  exact this
 ·rw[IQ]
  ·unfold gf
   simp only;rw[bJ,zS];split<;>rfl
  ·intro e he hc
   have:=hm.range e.slot (vS _ (dP.2 ⟨e,he,rfl⟩));exact hk (dP.2 ⟨e,he,by omega⟩)
theorem NY {x:cT} (hm:jK x) {A:List Int} {n:Nat} (hA:LW x A n) (hn:n<=3072) (hg:x.g<=4294967295) (h4:x.gens.length<=1792) {k:Nat} (hk:k<x.gens.length):
  nX (ew x.gens A x.free k)=true/\(1<=x.gens.getD k 0/\x.gens.getD k 0<=x.g)/\(A.getD k 0=0->x.gens.getD k 0=x.g->(ew x.gens A x.free k).block=0)/\(A.getD k 0≠0->(ew x.gens A x.free k).block=A.getD k 0)/\(A.getD k 0≠0↔(k:Int)∈(Zo x).map (·.slot)):=by
 have RO:1<=x.gens.getD k 0/\x.gens.getD k 0<=x.g:=by
  rw[bJ,ba hk];exact hm.gens _ (fK hk)
 have df:A.getD k 0≠0↔(k:Int)∈(Zo x).map (·.slot):=by
  constructor
  ·intro h
   rcases Classical.em ((k:Int)∈(Zo x).map (·.slot))with h1|h1
   ·exact h1
   ·exact absurd (hA.dead k h1) h
  ·intro h
   obtain⟨e,he,Ry⟩:=dP.1 h;have:=(hA.live e he).1;rw[show e.slot.toNat=k by omega]at this;omega
 have hblk:(ew x.gens A x.free k).block=j9 (k:Int) x.free (A.getD k 0):=rfl;have D1:(ew x.gens A x.free k).live= !(A.getD k 0==0):=rfl;have tE:(ew x.gens A x.free k).gen=x.gens.getD k 0:=rfl;have cZ:=hm.nodup;have gE:A.getD k 0≠0->(ew x.gens A x.free k).block=A.getD k 0:=fun h=>by
  rw[hblk];refine CK _ _ fun hf=>?_
  exact(hY.1 cZ).2.2 _ (df.1 h) _ hf rfl
 have Xw:A.getD k 0=0->x.gens.getD k 0=x.g->(ew x.gens A x.free k).block=0:=fun h h1=>by
  rw[hblk,CK _ _ fun hf=>?_,h];have:=hm.low _ hf;unfold fO at this;rw[aX]at this;omega
 refine⟨?_,RO,Xw,gE,df⟩;unfold nX;rw[tE,D1,ao (show ¬x.gens.getD k 0<0 by omega),ao (show ¬x.gens.getD k 0>4294967295 by omega)];by_cases h0:A.getD k 0=0
 ·have h1:0<=(ew x.gens A x.free k).block/\(ew x.gens A x.free k).block<=1792:=by
   rw[hblk,h0];rcases Classical.em ((k:Int)∈x.free)with hf|hf
   ·obtain⟨P,R,Dz⟩:=List.append_of_mem hf
    have h2:=IY (k:=(k:Int)) R 0 P (by rw[<-Dz];exact(hY.1 cZ).2.1);rw[<-Dz]at h2;rw[h2];cases R with
    |nil=>exact⟨zN 0,by decide⟩
    |cons b r=>
     have:=hm.range b (zU _ (by rw[Dz];simp));simp only;rw[Zb (by omega) (by omega)];omega
   ·rw[CK _ _ hf]
    exact⟨zN 0,by decide⟩
  rw[h0];simp only[zM,bD,cI,gN,bx,cond_false];rw[ah (show(ew x.gens A x.free k).block>=0 from h1.1),ah h1.2,cx.2 (show x.gens.getD k 0≠0 by omega)];rfl
 ·have h1:=gE h0
  obtain⟨e,he,Ry⟩:=dP.1 (df.1 h0);have h2:=hA.live e he;rw[show e.slot.toNat=k by omega]at h2;rw[cx.2 h0,h1];unfold me;rw[ah (show x.gens.getD k 0>0 by omega),ah (show A.getD k 0>=2 from h2.1),ah (show A.getD k 0<=3071 by omega)];rfl
end Go.Gv.F
namespace Go.Gv.F
open Go.Gv
theorem ZvA (x:cT):(Zo x).length=iO x.aB:=by
 unfold Zo iO;rw[List.length_flatten,xT];rfl
theorem Zxg {x:cT} (hm:jK x) {A:List Int} {n:Nat} (hA:LW x A n) (hn:n<=3072) (hg:x.g<=4294967295) (h4:x.gens.length<=1792):(((List.range x.gens.length).map (ew x.gens A x.free)).filter (·.live)).length=iO x.aB:=by
 rw[List.filter_map,lS,<-ZvA];have cZ:=(Zux hm).nd;have:((List.range x.gens.length).filter ((fun s:bL=>s.live)∘ew x.gens A x.free)).Perm ((Zo x).map (·.slot.toNat)):=by
  rw[List.perm_ext_iff_of_nodup (List.Nodup.sublist List.filter_sublist List.nodup_range) cZ];intro k;rw[xU,jE];show(k<x.gens.length/\(!(A.getD k 0==0))=true)↔_;constructor
  ·rintro⟨h1,h2⟩
   have h3:=(NY hm hA hn hg h4 h1).2.2.2.2.1 (by
    intro h0;rw[h0]at h2;cases h2)
   obtain⟨e,he,Ry⟩:=dP.1 h3;exact dP.2 ⟨e,he,by omega⟩
  ·intro h
   obtain⟨e,he,Ry⟩:=dP.1 h;have pY:=hm.range _ (vS _ (dP.2 ⟨e,he,rfl⟩));have h1:k<x.gens.length:=by omega
   refine⟨h1,?_⟩;have h3:=(NY hm hA hn hg h4 h1).2.2.2.2.2 (dP.2 ⟨e,he,by omega⟩);rw[cx.2 h3];rfl
 rw[this.length_eq,lS]
structure Qp (x:cT):Prop where
 k: ∀e∈Zo x, -9223372036854775808<=e.key/\e.key<=9223372036854775807
 v: ∀e∈Zo x, -9223372036854775808<=e.value/\e.value<=9223372036854775807
theorem Zub {x:cT} (hm:jK x) (hr:Qp x) {epoch:Int} {B:List UInt8} (dQ:uw (cM x epoch)) (vv:(dY x).2.next<=x.blocks.toNat) (F2:Fin B (dY x).2) (hlen:x.blocks.toNat<=B.length/64):
  ∃v,lP (oW B (cM x epoch))=some (some v)/\vN (cM x epoch) v=x/\Mem x.blocks.toNat v.W (fun b=>b<(dY x).2.next):=by
 obtain⟨g1,g2,g3,g4,g5,g6⟩:=rM hm.yD;have df:=hm.cu;have h4:x.gens.length<=1792:=by omega
 obtain⟨t,ht⟩: ∃t,eO x.aB [] (gf x)=t:=⟨_,rfl⟩;have hd:iH x=(match qG t.1 with
  |none=>(0,t.2)
  |some s=>(t.2.next,eJ t.2 s)):=by rw[<-ht];rfl
 have Rw:(iH x).2.At=t.2.At:=by
  rw[hd];cases qG t.1<;>rfl
 have hdx:Ex t.2 (iH x).2:=by
  rw[hd];cases qG t.1 with
  |none=>exact Ex.refl _
  |some s=>exact Ex.put _ _
 have vA:Ex (gf x) t.2:=by rw[<-ht];exact Ex.eO _ _ _
 have h2x:Ex (iH x).2 (dY x).2:=Ex.ix x.gens x.free _;have F1:=F2.back h2x;have Ft:=F1.back hdx;have m02:(gf x).next=2:=rfl;have l0:=vA.le;have l1:=hdx.le;have l2:=h2x.le;have hA:=WD hm h4;rw[ht]at hA;obtain⟨K,hK⟩: ∃K,oW B (cM x epoch)=K:=⟨_,rfl⟩;have Km:K.m=x.blocks.toNat:=by rw[<-hK];rfl
 have Ki:K.img=B:=by rw[<-hK];rfl
 have Ks:K.sup=cM x epoch:=by rw[<-hK];rfl
 have Ku:K.sup.used=(x.gens.length:Int):=by rw[Ks];rfl
 have Kg:K.sup.g=x.g:=by rw[Ks];rfl
 have DB: ∀k,k<x.gens.length->_:=fun k hk=>NY hm hA (by omega) g6 h4 (k:=k) hk
 obtain⟨SB,uZ⟩: ∃SB,ew x.gens t.2.At x.free=SB:=⟨_,rfl⟩;have hW:lP K=some (sH K):=by
  unfold lP;rw[Ks,(Cy _).2 dQ,cond_true,Ki,ah (show(cM x epoch).blocks<=((B.length/64:Nat):Int) by
   show x.blocks<=_;omega),cond_true]
 obtain⟨W1,p1,p2⟩:=Zxf (K:=K) (gens:=x.gens) (free:=x.free) (m:=(iH x).2) (v:=sI K.m) (P:=fun b=>b=0\/b=1) (by rw[Ki];exact F2) (by rw[Km];show(dY x).2.next<=_;omega) (by omega) (by omega) h4 (fun k hk=>by rw[Rw];exact(DB k hk).1) Ku (by rw[Ks];rfl)
  (fun k hk=>by
   rw[Rw];obtain⟨_,q2,q3,q4,q5⟩:=DB k hk;unfold tf;have tE:(ew x.gens t.2.At x.free k).gen=x.gens.getD k 0:=rfl;have D1:(ew x.gens t.2.At x.free k).live= !(t.2.At.getD k 0==0):=rfl;rw[tE,D1,Kg,ah (show x.gens.getD k 0>=1 from q2.1),cond_true,ah q2.2,cI];by_cases h0:t.2.At.getD k 0=0
   ·rw[h0]
    by_cases vh:x.gens.getD k 0=x.g
    ·rw[q3 h0 vh]
     rw[show((0:Int)==0)=true from rfl];cases decide (x.gens.getD k 0<x.g)<;>rfl
    ·rw[ah (show x.gens.getD k 0<x.g by omega)]
     rfl
   ·rw[cx.2 h0]
    rfl) (Zw5 (by omega)) (fun b hb=>by
   have h1:=hb.1;omega)
 rw[Rw,uZ]at p1;have dr:(ix x.gens x.free (iH x).2).2.next=(dY x).2.next:=rfl;rw[dr]at p2;obtain⟨v1,nQ⟩: ∃v1,({ sI K.m with W:=W1,aw:=(sI K.m).aw++(List.range x.gens.length).map SB } :aW)=v1:=⟨_,rfl⟩;rw[nQ]at p1;have v1s:v1.aw=(List.range x.gens.length).map SB:=by rw[<-nQ];rfl
 have fR:Qm K x.gens t.2.At x.free x.gens.length:=⟨Ku,h4,fun k hk=>by
  have pY:=hm.range k (zU _ hk);refine⟨pY.1,pY.2,hA.dead _ fun h=>?_,by rw[Kg];exact hm.low k hk⟩;rw[Int.toNat_of_nonneg pY.1]at h;exact(hY.1 hm.nodup).2.2 _ h _ hk rfl,(hY.1 hm.nodup).2.1⟩
 have q1:=Zzi fR (v:=v1) (by rw[v1s,uZ]) (by rw[Ks];rfl) (EO _ _ (hY.1 hm.nodup).2.1 fun k hk=>hm.range k (zU _ hk)) (fun j hj=>by
  rcases Classical.em (t.2.At.getD j 0=0)with h0|h0
  ·right
   rcases Classical.em ((j:Int)∈x.free)with h1|h1
   ·exact .inr h1
   ·left
    have yU:(j:Int)∉(Zo x).map (·.slot):=fun h=>(DB j hj).2.2.2.2.2 h h0
    have h2:=hm.rest j hj (fun h=>(cW.1 h).elim yU h1);unfold fO at h2;rw[aX]at h2;rw[Kg];have:=(DB j hj).2.1.2;omega
  ·exact .inl h0)
 obtain⟨v2,sr⟩: ∃v2,({ v1 with free:=v1.free++x.free } :aW)=v2:=⟨_,rfl⟩;rw[sr]at q1;have T7:v2.aw=(List.range x.gens.length).map SB:=by rw[<-sr];exact v1s
 have Fe:v2.aB=[]:=by rw[<-sr,<-nQ];rfl
 have v2g:v2.gens=[]:=by rw[<-sr,<-nQ];rfl
 have v2f:v2.free=x.free:=by rw[<-sr,<-nQ];rfl
 have v2n:v2.nodes=0:=by rw[<-sr,<-nQ];rfl
 have v2W:Mem K.m v2.W (fun b=>(b=0\/b=1)\/eE (iH x).2.next (dY x).2.next b):=by rw[<-sr,<-nQ];exact p2
 have mK: ∀h∈x.aB,sS K v2.aw t.2.At h.aN/\mG h.name=true/\h.aN.length<4096:=fun h hh=>by
  have sq: ∀e∈h.aN,e∈Zo x:=fun e he=>List.mem_flatten.2 ⟨h.aN,dP.2 ⟨h,hh,rfl⟩,he⟩
  have vt:=(hm.right h hh).2;refine⟨⟨fun e he=>?_,?_,ZpC vt⟩,(hm.right h hh).1,by have:=ZtK hm hh;omega⟩
  ·have he:=sq e he
   have pY:=hm.range _ (vS _ (dP.2 ⟨e,he,rfl⟩));have hk:e.slot.toNat<x.gens.length:=by omega
   have gE:=hA.live e he;have tE:=hm.gen e he;unfold fO at tE;obtain⟨_,q2,q3,q4,q5⟩:=DB _ hk;rw[tE]at q2;refine⟨pY.1,by rw[Ku];exact pY.2,by omega,⟨q2.1,by omega⟩,hr.k e he,hr.v e he,?_,?_⟩
   ·rw[T7,gL,og hk,<-uZ]
    have bn:t.2.At.getD e.slot.toNat 0≠0:=by omega
    show some (ew x.gens t.2.At x.free e.slot.toNat)=_;have e1:(ew x.gens t.2.At x.free e.slot.toNat).live=true:=by
     show(!(t.2.At.getD e.slot.toNat 0==0))=true;rw[cx.2 bn];rfl
    have e2:(ew x.gens t.2.At x.free e.slot.toNat).gen=e.gen:=tE;have e3:=q4 bn;generalize ew x.gens t.2.At x.free e.slot.toNat=Z at e1 e2 e3;cases Z;simp only at e1 e2 e3;rw[e1,e2,e3]
   ·have:t.2.At.length=x.gens.length:=by
     rw[<-ht];refine(An x.aB [] (gf x)).2.1.trans ?_;unfold gf;simp
    omega
  ·have:=(hY.1 hm.nodup).1
   obtain⟨P,R,Dz⟩:=List.append_of_mem hh;unfold Zo at this;rw[Dz,dL,gM,vR,mo,dL,dL]at this;exact(hY.1 (hY.1 this).2.1).1
 have hQ: ∃v3,ox K v2=some v3/\Mem K.m v3.W (fun b=>b<(dY x).2.next)/\v3.aB=x.aB/\v3.aw=v2.aw/\v3.gens=[]/\v3.free=x.free/\v3.nodes=((iO x.aB:Nat):Int):=by
  by_cases hh:x.aB=[]
  ·have SI:t=([],gf x):=by rw[<-ht,hh];rfl
   have eH:iH x=(0,gf x):=by rw[hd,SI];rfl
   refine⟨v2,?_,v2W.congr fun b=>?_,by rw[Fe,hh],rfl,v2g,v2f,by rw[v2n,hh];rfl⟩
   ·unfold ox
    have:K.sup.dir=0:=by
     rw[Ks];show(((iH x).1:Nat):Int)=0;rw[eH];rfl
    rw[this];rfl
   ·rw[eH]
    have hle:(gf x).next<=(dY x).2.next:=by rw[eH]at l2;exact l2
    unfold eE;simp only;omega
  ·obtain⟨v',new,n1,n2,n3,n4,_⟩:=PF (K:=K) (A:=t.2.At) x.aB [] (gf x) { v2 with W:=(sI K.m).W } (fun b=>b=0\/b=1) (by rw[ht,Ki];exact Ft) (by rw[ht,Km];omega) (by omega) (by omega) (by
    rw[<-ht];exact(An x.aB [] (gf x)).2.1.symm) mK (hY.1 hm.nodup).1 (by rw[Fe];exact hm.order) (fun e _=>by rw[ht]) (Zw5 (by omega)) (fun b hb=>by have:=hb.1;omega)
   rw[ht,fe]at n1;rw[ht]at n4;have abf:=hm.Dt;have oI:1<=x.aB.length:=List.length_pos_iff.2 hh;obtain⟨sd,d1,d2,d3⟩:=ZAm (l:=new) (by omega) (by omega) (fun k hk=>by have:=n4 k hk;omega) n3;have eH:iH x=(t.2.next,eJ t.2 sd):=by rw[hd,n1,d1]
   have U6:(iH x).2.next=t.2.next+1:=by rw[eH];rfl
   have xd:dR K.img t.2.next=sd:=by
    rw[Ki];rw[eH]at F1;exact F1.put d2 (by omega)
   obtain⟨t1,t2⟩:=AP v2W (k:=t.2.next) (by omega) (by omega) (by
    unfold eE;omega)
   rw[xd,d3]at t1;obtain⟨v3,abz,a1,a2,a3,a4,a5,a6,a7,a8,a9,a10,a11⟩:=PF (K:=K) (A:=t.2.At) x.aB [] (gf x) { v2 with W:=da K.m v2.W ((t.2.next:Nat):Int) } _ (by rw[ht,Ki];exact Ft) (by rw[ht,Km];omega) (by omega) (by omega) (by
    rw[<-ht];exact(An x.aB [] (gf x)).2.1.symm) mK (hY.1 hm.nodup).1 (by rw[Fe];exact hm.order) (fun e _=>by rw[ht]) t2 (fun b hb=>by
    rw[ht]at hb;unfold eE at hb⊢;omega)
   rw[ht,fe,n1]at a1;subst a1;rw[ht]at a6;refine⟨v3,?_,a6.congr fun b=>?_,by rw[a7,Fe];rfl,a8,by rw[a9,v2g],by rw[a10,v2f],by rw[a11];simp only;rw[v2n];omega⟩
   ·unfold ox
    have Xo:K.sup.dir=((t.2.next:Nat):Int):=by
     rw[Ks];show(((iH x).1:Nat):Int)=_;rw[eH]
    rw[Xo,cx.2 (show((t.2.next:Nat):Int)≠0 by omega),cond_false,t1];simp only;have a5:qL K v2.aB.length new _=some v3:=a5;rw[show v2.aB.length=0 by rw[Fe];rfl]at a5;exact a5
   ·unfold eE
    rw[U6];rw[U6]at l2;omega
 obtain⟨v3,r1,r2,r3,r4,r5,r6,r7⟩:=hQ;have Xl:zm v3=iO x.aB:=by
  unfold zm;rw[r4,T7,<-uZ];exact Zxg hm hA (by omega) g6 h4
 refine⟨rp v3,?_,?_,by rw[<-Km];exact r2⟩
 ·rw[hK,hW]
  unfold sH;rw[p1];simp only;rw[q1];simp only;rw[r1];simp only;rw[Xl,r7,ah rfl,cond_true]
 ·have Xz:(v3.aw.map (·.gen))=x.gens:=by
   rw[r4,T7,xT];refine na fun i=>?_
   rw[gL];rcases eM i x.gens.length with h|h
   ·rw[og h,ba h]
    show some ((SB i).gen)=_;rw[<-uZ];show some (x.gens.getD i 0)=_;rw[bJ,ba h];rfl
   ·rw[dT (by simpa using h),dT h]
    rfl
  show(⟨x.blocks,x.cu,x.g,v3.aB,v3.gens++v3.aw.map (·.gen),v3.free⟩:cT)=x;rw[Xz,r3,r5,r6];rfl
theorem ZyE {x:cT} (hm:jK x) (hr:Qp x) {epoch place:Int} {B:List UInt8} {s:eU} (hb:tc x epoch place=some (B,s)):
  ∃v,lP (oW B s)=some (some v)/\vN s v=x/\Mem x.blocks.toNat v.W (fun b=>b<(dY x).2.next):=by
 obtain⟨rfl,hP⟩:=Zn2 hb;have:=hP.room;have:=hP.len;exact Zub hm hr hP.ok (by omega) (hP.fin.back (Ex.iZ _ _ _ _)) (by omega)
end Go.Gv.F
