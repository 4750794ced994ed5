/- How many bits a word has: the library's sum of fields is the number of its bits. -/
import Derived.Test.YtegglibipjjblaaGreatDoorGvZMe
set_option linter.all false
namespace Go.Gv.F
open Go.Gv
theorem Mz (a b c d:Nat) (ha:a<16:=by omega) (hc:c<16:=by omega):(a+16*b)&&& (c+16*d)=(a&&& c)+16*(b&&& d):=by
 have h1:a+16*b=2^4*b+a:=by omega
 have h2:c+16*d=2^4*d+c:=by omega
 have h3:(a&&& c)+16*(b&&& d)=2^4*(b&&& d)+(a&&& c):=by omega
 have Jz:a&&& c<2^4:=Dd Nat.and_le_left ha;rw[h1,h2,h3];refine Dc λj=>?_
 rw[HH,DG 4 _ _ j ha,DG 4 _ _ j hc,DG 4 _ _ j Jz];by_cases h:j<4
 .rw[bE h,bE h,bE h,HH]
 grind
theorem Zya (a b c d:Nat) (ha:a<256) (hc:c<256):(a+256*b)&&& (c+256*d)=(a&&& c)+256*(b&&& d):=by
 have h1:a+256*b=2^8*b+a:=by omega
 have h2:c+256*d=2^8*d+c:=by omega
 have h3:(a&&& c)+256*(b&&& d)=2^8*(b&&& d)+(a&&& c):=by omega
 have Jz:a&&& c<2^8:=Dd Nat.and_le_left ha;rw[h1,h2,h3];refine Dc λj=>?_
 rw[HH,DG 8 _ _ j ha,DG 8 _ _ j hc,DG 8 _ _ j Jz];by_cases h:j<8
 .rw[bE h,bE h,bE h,HH]
 grind
def kU:Nat->Nat
 |0=>0
 |k+1=>1+16*kU k
def DW:Nat->Nat
 |0=>0
 |k+1=>1+256*DW k
def lT (n:Nat):Nat:=((List.range 4).filter (eE n)).length
def g1 (n:Nat):Nat:=(n/2&&& 5)+(n&&& 5)
def st1:Nat->Nat->Nat
 |0,_=>0
 |k+1,x=>g1 (x%16)+16*st1 k (x/16)
def st2:Nat->Nat->Nat
 |0,_=>0
 |k+1,x=>lT (x%16)+16*st2 k (x/16)
def EV:Nat->Nat->Nat
 |0,_=>0
 |k+1,x=>(lT (x%16)+lT (x/16%16))+256*EV k (x/256)
theorem Ac: ∀n,n<16->g1 n<16/\lT n<=4/\(g1 n/4+g1 n%4)=lT n/\(n/2+8)&&& 5=n/2&&& 5:=by decide+kernel
theorem ady: ∀n,n<16->n&&& 3=n%4:=by decide+kernel
theorem adz: ∀n,n<16->∀b,b<4->(n/4+4*b)&&& 3=n/4:=by decide+kernel
theorem Zxw: ∀(k x:Nat),x<16^k->(x/2&&& 5*kU k)+(x&&& 5*kU k)=st1 k x
 |0,x,h=>by
  have:x=0:=by simp at h;exact h
  subst this;rfl
 |k+1,x,h=>by
  have ED:x/16<16^k:=by rw[uz]at h;omega
  have ih:=Zxw k (x/16) ED;have e1:5*kU (k+1)=5+16*(5*kU k):=by show 5*(1+16*kU k)=_;omega
  have e2:x=x%16+16*(x/16):=by omega
  have e3:x/2=(x%16/2+8*(x/16%2))+16*(x/16/2):=by omega
  have hn:x%16<16:=by omega
  have e4:(x%16/2+8*(x/16%2))&&& 5=x%16/2&&& 5:=by
   rcases P5 (x/16)with hb|hb
   .rw[hb];rfl
   .rw[hb];exact(Ac _ hn).2.2.2
  have a1:x/2&&& 5*kU (k+1)=(x%16/2&&& 5)+16*(x/16/2&&& 5*kU k):=by
   rw[e1]
   conv=>lhs;rw[e3]
   rw[Mz _ _ _ _,e4]
  have a2:x&&& 5*kU (k+1)=(x%16&&& 5)+16*(x/16&&& 5*kU k):=by
   rw[e1]
   conv=>lhs;rw[e2]
   rw[Mz _ _ _ _ hn]
  rw[a1,a2];unfold st1 g1;omega
def Lc:Nat->Nat->Nat
 |0,_=>0
 |k+1,y=>(y%16/4+y%16%4)+16*Lc k (y/16)
theorem ZwR: ∀(k y:Nat),y<16^k->(y/4&&& 3*kU k)+(y&&& 3*kU k)=Lc k y
 |0,y,h=>by
  have:y=0:=by simp at h;exact h
  subst this;rfl
 |k+1,y,h=>by
  have ED:y/16<16^k:=by rw[uz]at h;omega
  have ih:=ZwR k (y/16) ED;have e1:3*kU (k+1)=3+16*(3*kU k):=by show 3*(1+16*kU k)=_;omega
  have e2:y=y%16+16*(y/16):=by omega
  have e3:y/4=(y%16/4+4*(y/16%4))+16*(y/16/4):=by omega
  have hn:y%16<16:=by omega
  have a1:y/4&&& 3*kU (k+1)=y%16/4+16*(y/16/4&&& 3*kU k):=by
   rw[e1]
   conv=>lhs;rw[e3]
   rw[Mz _ _ _ _,adz _ hn _ (by omega)]
  have a2:y&&& 3*kU (k+1)=y%16%4+16*(y/16&&& 3*kU k):=by
   rw[e1]
   conv=>lhs;rw[e2]
   rw[Mz _ _ _ _ hn,ady _ hn]
  rw[a1,a2];show _=(y%16/4+y%16%4)+16*Lc k (y/16);omega
theorem Zxn: ∀(k x:Nat),st1 k x<16^k
 |0,x=>Nat.zero_lt_one
 |k+1,x=>by
  have:=Zxn k (x/16);have h2:=(Ac (x%16) (by omega)).1;show g1 (x%16)+16*st1 k (x/16)<_;rw[uz];omega
theorem acS: ∀(k x:Nat),Lc k (st1 k x)=st2 k x
 |0,x=>rfl
 |k+1,x=>by
  have⟨h1,h2,h3,_⟩:=Ac (x%16) (by omega);have e1:st1 (k+1) x%16=g1 (x%16):=by show(g1 (x%16)+16*st1 k (x/16))%16=_;omega
  have e2:st1 (k+1) x/16=st1 k (x/16):=by show(g1 (x%16)+16*st1 k (x/16))/16=_;omega
  have ih:=acS k (x/16);show(st1 (k+1) x%16/4+st1 (k+1) x%16%4)+16*Lc k (st1 (k+1) x/16)=_;rw[e1,e2,h3,ih];rfl
theorem Zzm: ∀(k x:Nat),st2 k x%16<=4
 |0,x=>cz _
 |k+1,x=>by
  have h2:=(Ac (x%16) (by omega)).2.1;show(lT (x%16)+16*st2 k (x/16))%16<=4;omega
theorem Zxm: ∀(j x:Nat),(st2 (2*j) x/16+st2 (2*j) x)&&& 15*DW j=EV j x
 |0,x=>Nat.and_zero _
 |j+1,x=>by
  have hx:=Zxm j (x/256);have hd:=Zzm (2*j) (x/256);have h1:=(Ac (x%16) (by omega)).2.1;have h2:=(Ac (x/16%16) (by omega)).2.1;have e0:st2 (2*(j+1)) x=lT (x%16)+16*(lT (x/16%16)+16*st2 (2*j) (x/256)):=by
   show lT (x%16)+16*(lT (x/16%16)+16*st2 (2*j) (x/16/16))=_;rw[Fg]
  have e1:15*DW (j+1)=15+256*(15*DW j):=by show 15*(1+256*DW j)=_;omega
  show _=(lT (x%16)+lT (x/16%16))+256*EV j (x/256);rw[e0,e1];generalize st2 (2*j) (x/256)=y at hx hd;generalize lT (x%16)=p at h1;generalize lT (x/16%16)=r at h2;have e2:(p+16*(r+16*y))/16+(p+16*(r+16*y))=(p+r+16*(r+y%16))+256*(y/16+y):=by omega
  rw[e2,Zya _ _ _ _ (by omega) (by omega),hx];have e3:(p+r+16*(r+y%16))&&& 15=p+r:=by
   have:(p+r+16*(r+y%16))&&& (2^4-1)=(p+r+16*(r+y%16))%2^4:=P3 _ 4;rw[show(2:Nat)^4-1=15 from rfl,show(2:Nat)^4=16 from rfl]at this;rw[this];omega
  rw[e3]
def Pz:Nat->Nat->Nat
 |0,_=>0
 |k+1,x=>lT (x%16)+Pz k (x/16)
theorem Zu9 (x i:Nat):eE x (4+i)=eE (x/16) i:=by
 simp[eE,Nat.pow_add,Fg]
theorem Zyu (x:Nat): ∀i,i<4->eE x i=eE (x%16) i:=λi hi=>by
 have:i=0\/i=1\/i=2\/i=3:=by omega
 grind[eE]
theorem ZuL: ∀(k x:Nat),((List.range (4*k)).filter (eE x)).length=Pz k x
 |0,x=>rfl
 |k+1,x=>by
  have e:4*(k+1)=4+4*k:=by omega
  rw[e,List.range_add,Fa,bB,List.filter_map,lG];have h1:(List.range 4).filter (eE x)=(List.range 4).filter (eE (x%16)):=List.filter_congr λi hi=>Zyu x i (ux.1 hi)
  have h2:(eE x∘λi=>4+i)=eE (x/16):=funext λi=>Zu9 x i
  rw[h1,h2,ZuL k (x/16)];rfl
def DY:al->Nat
 |[]=>0
 |b::r=>b+256*DY r
theorem ZuB: ∀(j x:Nat),∃l:al,l.length=j/\(∀b∈l,b<=8)/\EV j x=DY l/\Pz (2*j) x=l.sum
 |0,x=>⟨[],rfl,(λ_ h=>by cases h),rfl,rfl⟩
 |j+1,x=>by
  have⟨l,h1,h2,h3,h4⟩:=ZuB j (x/256);have p1:=(Ac (x%16) (by omega)).2.1;have p2:=(Ac (x/16%16) (by omega)).2.1;refine⟨(lT (x%16)+lT (x/16%16))::l,by rw[cO,h1],λb hb=>?_,?_,?_⟩
  .grind
  .show(lT (x%16)+lT (x/16%16))+256*EV j (x/256)=_
   rw[h3];rfl
  .show lT (x%16)+(lT (x/16%16)+Pz (2*j) (x/16/16))=_
   rw[Fg,h4,List.sum_cons];omega
variable {n w y:Nat}
theorem BL {l:al} (h:l.length=n+1): ∃b r,l=b::r/\r.length=n:=by
 cases l with
 |nil=>cases h
 |cons b r=>grind
theorem ZAn (b0 b1 b2 b3 b4 b5 b6 b7:Nat):b0+256*(b1+256*(b2+256*(b3+256*(b4+256*(b5+256*(b6+256*b7))))))+(b1+256*(b2+256*(b3+256*(b4+256*(b5+256*(b6+256*b7))))))=((b0+b1)+256*(b1+b2))+65536*(((b2+b3)+256*(b3+b4))+65536*(((b4+b5)+256*(b5+b6))+65536*((b6+b7)+256*b7))):=by omega
theorem Zz8 (b Y:Nat) (h:b<=8):(b+256*Y)/256=Y:=by omega
theorem Zxk (P0 Q:Nat) (l0:P0<=4112):(P0+65536*Q)/65536=Q:=by omega
theorem ZwF (P0 P2 P4 P6:Nat):P0+65536*(P2+65536*(P4+65536*P6))+(P2+65536*(P4+65536*P6))=(P0+P2)+65536*(P2+P4)+4294967296*(P4+65536*P6+P6):=by omega
theorem ZwY (P0 P2 P4 Q:Nat) (l0:P0<=4112) (l2:P2<=4112) (l4:P4<=4112):(P0+P2+65536*(P2+P4)+4294967296*Q)/4294967296=Q:=by omega
theorem ZzX (P0 P2 P4 P6:Nat):(P0+P2+65536*(P2+P4)+4294967296*(P4+65536*P6+P6)+(P4+65536*P6+P6))%128=(P0+P2+P4+P6)%128:=by omega
theorem Zzc (b0 b1 b2 b3 b4 b5 b6 b7:Nat) (h0:b0<=8) (h1:b1<=8) (h2:b2<=8) (h3:b3<=8) (h4:b4<=8) (h5:b5<=8) (h6:b6<=8) (h7:b7<=8):(((b0+b1)+256*(b1+b2))+((b2+b3)+256*(b3+b4))+((b4+b5)+256*(b5+b6))+((b6+b7)+256*b7))%128=b0+(b1+(b2+(b3+(b4+(b5+(b6+b7)))))):=by omega
theorem ZxZ (l:al) (hl:l.length=8) (hb: ∀b∈l,b<=8): ∃n4 n5 n6,n4=DY l+DY l/256/\n5=n4+n4/65536/\n6=n5+n5/4294967296/\n6<9223372036854775808/\n6%128=l.sum:=by
 have⟨b0,r0,e0,k0⟩:=BL hl;subst e0;have⟨b1,r1,e1,k1⟩:=BL k0;subst e1;have⟨b2,r2,e2,k2⟩:=BL k1;subst e2;have⟨b3,r3,e3,k3⟩:=BL k2;subst e3;have⟨b4,r4,e4,k4⟩:=BL k3;subst e4;have⟨b5,r5,e5,k5⟩:=BL k4;subst e5;have⟨b6,r6,e6,k6⟩:=BL k5;subst e6;have⟨b7,r7,e7,k7⟩:=BL k6;subst e7;have hr:r7=[]:=zu.1 k7;subst hr;simp only[eF,tl,oH,forall_eq_or_imp,forall_eq]at hb;have⟨h0,h1,h2,h3,h4,h5,h6,h7⟩:=hb;have hv:DY [b0,b1,b2,b3,b4,b5,b6,b7]=b0+256*(b1+256*(b2+256*(b3+256*(b4+256*(b5+256*(b6+256*b7)))))):=rfl;have hs:([b0,b1,b2,b3,b4,b5,b6,b7]:al).sum=b0+(b1+(b2+(b3+(b4+(b5+(b6+b7)))))):=rfl;rw[hv,hs,Zz8 _ _ h0,ZAn,<-Zzc b0 b1 b2 b3 b4 b5 b6 b7 h0 h1 h2 h3 h4 h5 h6 h7];have l0:(b0+b1)+256*(b1+b2)<=4112:=by omega
 have l2:(b2+b3)+256*(b3+b4)<=4112:=by omega
 have l4:(b4+b5)+256*(b5+b6)<=4112:=by omega
 have l6:(b6+b7)+256*b7<=4112:=by omega
 generalize (b0+b1)+256*(b1+b2)=P0 at l0;generalize (b2+b3)+256*(b3+b4)=P2 at l2;generalize (b4+b5)+256*(b5+b6)=P4 at l4;generalize (b6+b7)+256*b7=P6 at l6;refine⟨_,_,_,rfl,rfl,rfl,?_,?_⟩
 .rw[Zxk _ _ l0,ZwF,ZwY _ _ _ _ l0 l2 l4]
  omega
 .rw[Zxk _ _ l0,ZwF,ZwY _ _ _ _ l0 l2 l4]
  exact ZzX _ _ _ _
theorem ZwH: ∀(k x:Nat),st2 k x<=4*kU k
 |0,_=>aO _
 |k+1,x=>by
  have h2:=(Ac (x%16) (by omega)).2.1;have:=ZwH k (x/16);show lT (x%16)+16*st2 k (x/16)<=4*(1+16*kU k);omega
def ocI (x:Int):Int:=
 (λx1:Int=>(λx2:Int=>(λx3:Int=>(λx4:Int=>(λx5:Int=>(λx6:Int=>bits .and .i64 (ar x6) 127)
  (IntKind.wrap .u64 (x5+x5.fdiv (2^32)))) (IntKind.wrap .u64 (x4+x4.fdiv (2^16)))) (IntKind.wrap .u64 (x3+x3.fdiv (2^8))))
  (bits .and .u64 (IntKind.wrap .u64 (x2.fdiv (2^4)+x2)) 1085102592571150095))
  (IntKind.wrap .u64 (bits .and .u64 (x1.fdiv (2^2)) 3689348814741910323+bits .and .u64 x1 3689348814741910323)))
  (IntKind.wrap .u64 (bits .and .u64 (x.fdiv (2^1)) 6148914691236517205+bits .and .u64 x 6148914691236517205))
theorem ZzV (x:Int):Py x=ocI x:=rfl
theorem ZAr (h:y<9223372036854775808):bits .and .i64 (y:Int) 127=((y%128:Nat):Int):=by
 show IntKind.wrap .i64 ((BitVec.ofInt 64 (y:Int)&&& BitVec.ofInt 64 (127:Int)).toNat:Int)=_;have e2:(BitVec.ofInt 64 (127:Int)).toNat=2^7-1:=by decide
 rw[Lm,Gh,e2,P3];exact Zc
theorem ZzB (h:w<18446744073709551616):Py (w:Int)=(((oh w).length:Nat):Int):=by
 have c0:5*kU 16=6148914691236517205:=by decide
 have c1:3*kU 16=3689348814741910323:=by decide
 have c2:15*DW 8=1085102592571150095:=by decide
 have c3:(16:Nat)^16=18446744073709551616:=by decide
 have c4:4*kU 16=4919131752989213764:=by decide
 have s1:=Zxw 16 w (by omega);have l1:=Zxn 16 w;have s2:=ZwR 16 (st1 16 w) l1;rw[acS]at s2;have l2:=ZwH 16 w;have s3:=Zxm 8 w;have PF:(st2 16 w/16+st2 16 w)&&& 15*DW 8=EV 8 w:=s3;have⟨l,g1,g2,g3,g4⟩:=ZuB 8 w;have⟨n4,n5,n6,q4,q5,q6,q7,q8⟩:=ZxZ l g1 g2;rw[c0]at s1;rw[c1]at s2;rw[c2]at PF;have p:(oh w).length=l.sum:=by
  rw[<-g4];exact ZuL 16 w
 rw[ZzV,p,<-q8];unfold ocI;have f1:((w:Int)).fdiv (2^1)=((w/2:Nat):Int):=tF w 2;have a1:IntKind.wrap .u64 (bits .and .u64 ((w:Int).fdiv (2^1)) 6148914691236517205+bits .and .u64 (w:Int) 6148914691236517205)=((st1 16 w:Nat):Int):=by
  rw[f1];have h1:bits .and .u64 ((w/2:Nat):Int) 6148914691236517205=((w/2&&& 6148914691236517205:Nat):Int):=D2 (by omega) (by decide);have h2:bits .and .u64 (w:Int) 6148914691236517205=((w&&& 6148914691236517205:Nat):Int):=D2 h (by decide);rw[h1,h2,<-C7,s1];exact qR
 generalize st1 16 w=y1 at a1 s2 l1;rw[a1];simp only;have f2:((y1:Int)).fdiv (2^2)=((y1/4:Nat):Int):=tF y1 4;have a2:IntKind.wrap .u64 (bits .and .u64 ((y1:Int).fdiv (2^2)) 3689348814741910323+bits .and .u64 (y1:Int) 3689348814741910323)=((st2 16 w:Nat):Int):=by
  rw[f2];have h1:bits .and .u64 ((y1/4:Nat):Int) 3689348814741910323=((y1/4&&& 3689348814741910323:Nat):Int):=D2 (by omega) (by decide);have h2:bits .and .u64 (y1:Int) 3689348814741910323=((y1&&& 3689348814741910323:Nat):Int):=D2 (by omega) (by decide);rw[h1,h2,<-C7,s2];exact qR
 generalize st2 16 w=y2 at a2 PF l2;rw[a2];have f3:((y2:Int)).fdiv (2^4)=((y2/16:Nat):Int):=tF y2 16;have a3:bits .and .u64 (IntKind.wrap .u64 ((y2:Int).fdiv (2^4)+(y2:Int))) 1085102592571150095=((EV 8 w:Nat):Int):=by
  rw[f3,<-C7,qR];have h1:bits .and .u64 ((y2/16+y2:Nat):Int) 1085102592571150095=((y2/16+y2&&& 1085102592571150095:Nat):Int):=D2 (by omega) (by decide);rw[h1,PF]
 rw[a3,g3];have f4:(DY l:Int).fdiv (2^8)=((DY l/256:Nat):Int):=tF _ 256;rw[f4,<-C7,<-q4,qR];have f5:(n4:Int).fdiv (2^16)=((n4/65536:Nat):Int):=tF _ 65536;rw[f5,<-C7,<-q5,qR];have f6:(n5:Int).fdiv (2^32)=((n5/4294967296:Nat):Int):=tF _ 4294967296;rw[f6,<-C7,<-q6,qR,Zc];exact ZAr q7
theorem Zpu: ∀(W:al) (a b:Nat),(∀w∈W,w<18446744073709551616)->a+64*W.length<1000000->I3 (a:Int) W=((a+(uT b W).length:Nat):Int)
 |[],a,b,_,_=>rfl
 |w::r,a,b,h,hl=>by
  rw[cO]at hl;have hb:=ML w;unfold I3 uT;rw[ZzB (h w (by simp))];have hw:ar ((a:Int)+(((oh w).length:Nat):Int))=((a+(oh w).length:Nat):Int):=Zc;rw[hw,Zpu r (a+(oh w).length) (b+1) (by grind) (by omega),bB,lG];omega
theorem Zpe: ∀(b:Nat) (W:al),uT b W=((List.range (64*W.length)).filter (di W)).map λj=>((b*64+j:Nat):Int)
 |b,[]=>rfl
 |b,w::r=>by
  unfold uT;rw[Zpe (b+1) r,cO,show 64*(r.length+1)=64+64*r.length by omega,List.range_add,Fa,fq];have hA:(List.range 64).filter (di (w::r))=oh w:=by
   rfl
  have e:(di (w::r)∘λi=>64+i)=di r:=by
   funext j;simp[di]
  rw[hA,List.filter_map,zw,e];refine congrArg (_++ ·) (Lq λj _=>?_);grind
theorem Zq9 (W:al):dq W=((List.range (64*W.length)).filter (di W)).map λj=>((j:Nat):Int):=by
 simp[dq,Zpe,tn,eO]
end Go.Gv.F
