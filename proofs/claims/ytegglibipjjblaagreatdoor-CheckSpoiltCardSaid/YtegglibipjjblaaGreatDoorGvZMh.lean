/- How many bits a word has: the library's sum of fields is the number of its bits. -/
import Derived.Test.YtegglibipjjblaaGreatDoorGvZMe
set_option linter.all false
namespace Go.Gv.F
open Go.Gv
theorem M5 (a b c d:Nat) (ha:a<16:=by omega) (hc:c<16:=by omega):(a+16*b)&&& (c+16*d)=(a&&& c)+16*(b&&& d):=by
 have h1:a+16*b=2^4*b+a:=AC
 have h2:c+16*d=2^4*d+c:=AC
 have h3:(a&&& c)+16*(b&&& d)=2^4*(b&&& d)+(a&&& c):=AC
 have Kb:a&&& c<2^4:=DI Nat.and_le_left ha;rw[h1,h2,h3];refine DH λj=>?_
 rw[Ie,D6 4 _ _ j ha,D6 4 _ _ j hc,D6 4 _ _ j Kb];by_cases h:j<4
 .rw[bG h,bG h,bG h,Ie]
 grind
theorem Zzf (a b c d:Nat) (ha:a<256) (hc:c<256):(a+256*b)&&& (c+256*d)=(a&&& c)+256*(b&&& d):=by
 have h1:a+256*b=2^8*b+a:=AC
 have h2:c+256*d=2^8*d+c:=AC
 have h3:(a&&& c)+256*(b&&& d)=2^8*(b&&& d)+(a&&& c):=AC
 have Kb:a&&& c<2^8:=DI Nat.and_le_left ha;rw[h1,h2,h3];refine DH λj=>?_
 rw[Ie,D6 8 _ _ j ha,D6 8 _ _ j hc,D6 8 _ _ j Kb];by_cases h:j<8
 .rw[bG h,bG h,bG h,Ie]
 grind
def lr:Nat->Nat
 |0=>0
 |k+1=>1+16*lr k
def Es:Nat->Nat
 |0=>0
 |k+1=>1+256*Es k
def mj (n:Nat):Nat:=((List.range 4).filter (eI n)).length
def g1 (n:Nat):Nat:=(n/2&&& 5)+(n&&& 5)
def st1:Nat->Nat->Nat
 |0,_=>0
 |k+1,x=>g1 (x%16)+16*st1 k (x/16)
def st2:Nat->Nat->Nat
 |0,_=>0
 |k+1,x=>mj (x%16)+16*st2 k (x/16)
def FF:Nat->Nat->Nat
 |0,_=>0
 |k+1,x=>(mj (x%16)+mj (x/16%16))+256*FF k (x/256)
theorem AG: ∀n,n<16->g1 n<16/\mj n<=4/\(g1 n/4+g1 n%4)=mj n/\(n/2+8)&&& 5=n/2&&& 5:=by decide+kernel
theorem aei: ∀n,n<16->n&&& 3=n%4:=by decide+kernel
theorem aej: ∀n,n<16->∀b,b<4->(n/4+4*b)&&& 3=n/4:=by decide+kernel
theorem ZwH: ∀(k x:Nat),x<16^k->(x/2&&& 5*lr k)+(x&&& 5*lr k)=st1 k x
 |0,x,h=>by
  have:x=0:=by simp at h;exact h
  subst this;rfl
 |k+1,x,h=>by
  have Fj:x/16<16^k:=by rw[u7]at h;omega
  have ih:=ZwH k (x/16) Fj;have e1:5*lr (k+1)=5+16*(5*lr k):=by show 5*(1+16*lr k)=_;omega
  have e2:x=x%16+16*(x/16):=AC
  have e3:x/2=(x%16/2+8*(x/16%2))+16*(x/16/2):=AC
  have hn:x%16<16:=AC
  have e4:(x%16/2+8*(x/16%2))&&& 5=x%16/2&&& 5:=by
   rcases QI (x/16)with hb|hb
   .rw[hb];rfl
   .rw[hb];exact(AG _ hn).2.2.2
  have a1:x/2&&& 5*lr (k+1)=(x%16/2&&& 5)+16*(x/16/2&&& 5*lr k):=by
   rw[e1]
   conv=>lhs;rw[e3]
   rw[M5 _ _ _ _,e4]
  have a2:x&&& 5*lr (k+1)=(x%16&&& 5)+16*(x/16&&& 5*lr k):=by
   rw[e1]
   conv=>lhs;rw[e2]
   rw[M5 _ _ _ _ hn]
  rw[a1,a2];unfold st1 g1;omega
def LP:Nat->Nat->Nat
 |0,_=>0
 |k+1,y=>(y%16/4+y%16%4)+16*LP k (y/16)
theorem ZxY: ∀(k y:Nat),y<16^k->(y/4&&& 3*lr k)+(y&&& 3*lr k)=LP k y
 |0,y,h=>by
  have:y=0:=by simp at h;exact h
  subst this;rfl
 |k+1,y,h=>by
  have Fj:y/16<16^k:=by rw[u7]at h;omega
  have ih:=ZxY k (y/16) Fj;have e1:3*lr (k+1)=3+16*(3*lr k):=by show 3*(1+16*lr k)=_;omega
  have e2:y=y%16+16*(y/16):=AC
  have e3:y/4=(y%16/4+4*(y/16%4))+16*(y/16/4):=AC
  have hn:y%16<16:=AC
  have a1:y/4&&& 3*lr (k+1)=y%16/4+16*(y/16/4&&& 3*lr k):=by
   rw[e1]
   conv=>lhs;rw[e3]
   rw[M5 _ _ _ _,aej _ hn _ AC]
  have a2:y&&& 3*lr (k+1)=y%16%4+16*(y/16&&& 3*lr k):=by
   rw[e1]
   conv=>lhs;rw[e2]
   rw[M5 _ _ _ _ hn,aei _ hn]
  rw[a1,a2];show _=(y%16/4+y%16%4)+16*LP k (y/16);omega
theorem ZwW: ∀(k x:Nat),st1 k x<16^k
 |0,x=>Nat.zero_lt_one
 |k+1,x=>by
  have:=ZwW k (x/16);have h2:=(AG (x%16) AC).1;show g1 (x%16)+16*st1 k (x/16)<_;rw[u7];omega
theorem adB: ∀(k x:Nat),LP k (st1 k x)=st2 k x
 |0,x=>rfl
 |k+1,x=>by
  have⟨h1,h2,h3,_⟩:=AG (x%16) AC;have e1:st1 (k+1) x%16=g1 (x%16):=by show(g1 (x%16)+16*st1 k (x/16))%16=_;omega
  have e2:st1 (k+1) x/16=st1 k (x/16):=by show(g1 (x%16)+16*st1 k (x/16))/16=_;omega
  have ih:=adB k (x/16);show(st1 (k+1) x%16/4+st1 (k+1) x%16%4)+16*LP k (st1 (k+1) x/16)=_;rw[e1,e2,h3,ih];rfl
theorem ZAp: ∀(k x:Nat),st2 k x%16<=4
 |0,x=>cB _
 |k+1,x=>by
  have h2:=(AG (x%16) AC).2.1;show(mj (x%16)+16*st2 k (x/16))%16<=4;omega
theorem ZwJ: ∀(j x:Nat),(st2 (2*j) x/16+st2 (2*j) x)&&& 15*Es j=FF j x
 |0,x=>Nat.and_zero _
 |j+1,x=>by
  have hx:=ZwJ j (x/256);have hd:=ZAp (2*j) (x/256);have h1:=(AG (x%16) AC).2.1;have h2:=(AG (x/16%16) AC).2.1;have e0:st2 (2*(j+1)) x=mj (x%16)+16*(mj (x/16%16)+16*st2 (2*j) (x/256)):=by
   show mj (x%16)+16*(mj (x/16%16)+16*st2 (2*j) (x/16/16))=_;rw[FQ]
  have e1:15*Es (j+1)=15+256*(15*Es j):=by show 15*(1+256*Es j)=_;omega
  show _=(mj (x%16)+mj (x/16%16))+256*FF j (x/256);rw[e0,e1];generalize st2 (2*j) (x/256)=y at hx hd;generalize mj (x%16)=p at h1;generalize mj (x/16%16)=r at h2;have e2:(p+16*(r+16*y))/16+(p+16*(r+16*y))=(p+r+16*(r+y%16))+256*(y/16+y):=AC
  rw[e2,Zzf _ _ _ _ AC AC,hx];have e3:(p+r+16*(r+y%16))&&& 15=p+r:=by
   have:(p+r+16*(r+y%16))&&& (2^4-1)=(p+r+16*(r+y%16))%2^4:=QH _ 4;rw[show(2:Nat)^4-1=15 from rfl,show(2:Nat)^4=16 from rfl]at this;rw[this];omega
  rw[e3]
def Qh:Nat->Nat->Nat
 |0,_=>0
 |k+1,x=>mj (x%16)+Qh k (x/16)
theorem Zwb (x i:Nat):eI x (4+i)=eI (x/16) i:=by
 simp[eI,Nat.pow_add,FQ]
theorem Zyh (x:Nat): ∀i,i<4->eI x i=eI (x%16) i:=λi hi=>by
 have:i=0\/i=1\/i=2\/i=3:=AC
 grind[eI]
theorem Zu1: ∀(k x:Nat),((List.range (4*k)).filter (eI x)).length=Qh k x
 |0,x=>rfl
 |k+1,x=>by
  have e:4*(k+1)=4+4*k:=AC
  rw[e,List.range_add,FL,bz,List.filter_map,lB];have h1:(List.range 4).filter (eI x)=(List.range 4).filter (eI (x%16)):=List.filter_congr λi hi=>Zyh x i (uY.1 hi)
  have h2:(eI x∘λi=>4+i)=eI (x/16):=funext λi=>Zwb x i
  rw[h1,h2,Zu1 k (x/16)];rfl
def Ep:al->Nat
 |[]=>0
 |b::r=>b+256*Ep r
theorem Zu8: ∀(j x:Nat),∃l:al,l.length=j/\(∀b∈l,b<=8)/\FF j x=Ep l/\Qh (2*j) x=l.sum
 |0,x=>⟨[],rfl,(λ_ h=>by cases h),rfl,rfl⟩
 |j+1,x=>by
  have⟨l,h1,h2,h3,h4⟩:=Zu8 j (x/256);have p1:=(AG (x%16) AC).2.1;have p2:=(AG (x/16%16) AC).2.1;refine⟨(mj (x%16)+mj (x/16%16))::l,by rw[cQ,h1],λb hb=>?_,?_,?_⟩
  .grind
  .show(mj (x%16)+mj (x/16%16))+256*FF j (x/256)=_
   rw[h3];rfl
  .show mj (x%16)+(mj (x/16%16)+Qh (2*j) (x/16/16))=_
   rw[FQ,h4,List.sum_cons];omega
variable {n w y:Nat}
theorem Ci {l:al} (h:l.length=n+1): ∃b r,l=b::r/\r.length=n:=by
 cases l with
 |nil=>cases h
 |cons b r=>grind
theorem ZA4 (b0 b1 b2 b3 b4 b5 b6 b7:Nat):b0+256*(b1+256*(b2+256*(b3+256*(b4+256*(b5+256*(b6+256*b7))))))+(b1+256*(b2+256*(b3+256*(b4+256*(b5+256*(b6+256*b7))))))=((b0+b1)+256*(b1+b2))+65536*(((b2+b3)+256*(b3+b4))+65536*(((b4+b5)+256*(b5+b6))+65536*((b6+b7)+256*b7))):=AC
theorem ZAV (b Y:Nat) (h:b<=8):(b+256*Y)/256=Y:=AC
theorem Zw8 (P0 Q:Nat) (l0:P0<=4112):(P0+65536*Q)/65536=Q:=AC
theorem Zxd (P0 P2 P4 P6:Nat):P0+65536*(P2+65536*(P4+65536*P6))+(P2+65536*(P4+65536*P6))=(P0+P2)+65536*(P2+P4)+4294967296*(P4+65536*P6+P6):=AC
theorem Zw4 (P0 P2 P4 Q:Nat) (l0:P0<=4112) (l2:P2<=4112) (l4:P4<=4112):(P0+P2+65536*(P2+P4)+4294967296*Q)/4294967296=Q:=AC
theorem ZAJ (P0 P2 P4 P6:Nat):(P0+P2+65536*(P2+P4)+4294967296*(P4+65536*P6+P6)+(P4+65536*P6+P6))%128=(P0+P2+P4+P6)%128:=AC
theorem ZzO (b0 b1 b2 b3 b4 b5 b6 b7:Nat) (h0:b0<=8) (h1:b1<=8) (h2:b2<=8) (h3:b3<=8) (h4:b4<=8) (h5:b5<=8) (h6:b6<=8) (h7:b7<=8):(((b0+b1)+256*(b1+b2))+((b2+b3)+256*(b3+b4))+((b4+b5)+256*(b5+b6))+((b6+b7)+256*b7))%128=b0+(b1+(b2+(b3+(b4+(b5+(b6+b7)))))):=AC
theorem ZyL (l:al) (hl:l.length=8) (hb: ∀b∈l,b<=8): ∃n4 n5 n6,n4=Ep l+Ep l/256/\n5=n4+n4/65536/\n6=n5+n5/4294967296/\n6<9223372036854775808/\n6%128=l.sum:=by
 have⟨b0,r0,e0,k0⟩:=Ci hl;subst e0;have⟨b1,r1,e1,k1⟩:=Ci k0;subst e1;have⟨b2,r2,e2,k2⟩:=Ci k1;subst e2;have⟨b3,r3,e3,k3⟩:=Ci k2;subst e3;have⟨b4,r4,e4,k4⟩:=Ci k3;subst e4;have⟨b5,r5,e5,k5⟩:=Ci k4;subst e5;have⟨b6,r6,e6,k6⟩:=Ci k5;subst e6;have⟨b7,r7,e7,k7⟩:=Ci k6;subst e7;have hr:r7=[]:=zW.1 k7;subst hr;simp only[eM,tW,pj,forall_eq_or_imp,forall_eq]at hb;have⟨h0,h1,h2,h3,h4,h5,h6,h7⟩:=hb;have hv:Ep [b0,b1,b2,b3,b4,b5,b6,b7]=b0+256*(b1+256*(b2+256*(b3+256*(b4+256*(b5+256*(b6+256*b7)))))):=rfl;have hs:([b0,b1,b2,b3,b4,b5,b6,b7]:al).sum=b0+(b1+(b2+(b3+(b4+(b5+(b6+b7)))))):=rfl;rw[hv,hs,ZAV _ _ h0,ZA4,<-ZzO b0 b1 b2 b3 b4 b5 b6 b7 h0 h1 h2 h3 h4 h5 h6 h7];have l0:(b0+b1)+256*(b1+b2)<=4112:=AC
 have l2:(b2+b3)+256*(b3+b4)<=4112:=AC
 have l4:(b4+b5)+256*(b5+b6)<=4112:=AC
 have l6:(b6+b7)+256*b7<=4112:=AC
 generalize (b0+b1)+256*(b1+b2)=P0 at l0;generalize (b2+b3)+256*(b3+b4)=P2 at l2;generalize (b4+b5)+256*(b5+b6)=P4 at l4;generalize (b6+b7)+256*b7=P6 at l6;refine⟨_,_,_,rfl,rfl,rfl,?_,?_⟩
 .rw[Zw8 _ _ l0,Zxd,Zw4 _ _ _ _ l0 l2 l4]
  omega
 .rw[Zw8 _ _ l0,Zxd,Zw4 _ _ _ _ l0 l2 l4]
  exact ZAJ _ _ _ _
theorem Zxx: ∀(k x:Nat),st2 k x<=4*lr k
 |0,_=>aM _
 |k+1,x=>by
  have h2:=(AG (x%16) AC).2.1;have:=Zxx k (x/16);show mj (x%16)+16*st2 k (x/16)<=4*(1+16*lr k);omega
def ocI (x:Int):Int:=
 (λx1:Int=>(λx2:Int=>(λx3:Int=>(λx4:Int=>(λx5:Int=>(λx6:Int=>bits .and .i64 (ar x6) 127)
  (IntKind.wrap .u64 (x5+x5.fdiv (2^32)))) (IntKind.wrap .u64 (x4+x4.fdiv (2^16)))) (IntKind.wrap .u64 (x3+x3.fdiv (2^8))))
  (bits .and .u64 (IntKind.wrap .u64 (x2.fdiv (2^4)+x2)) 1085102592571150095))
  (IntKind.wrap .u64 (bits .and .u64 (x1.fdiv (2^2)) 3689348814741910323+bits .and .u64 x1 3689348814741910323)))
  (IntKind.wrap .u64 (bits .and .u64 (x.fdiv (2^1)) 6148914691236517205+bits .and .u64 x 6148914691236517205))
theorem ZAi (x:Int):Qg x=ocI x:=rfl
theorem ZAM (h:y<9223372036854775808):bits .and .i64 (y:Int) 127=((y%128:Nat):Int):=by
 show IntKind.wrap .i64 ((BitVec.ofInt 64 (y:Int)&&& BitVec.ofInt 64 (127:Int)).toNat:Int)=_;have e2:(BitVec.ofInt 64 (127:Int)).toNat=2^7-1:=EQ
 rw[LZ,GN,e2,QH];exact Zc
theorem ZAa (h:w<18446744073709551616):Qg (w:Int)=(((oB w).length:Nat):Int):=by
 have c0:5*lr 16=6148914691236517205:=EQ
 have c1:3*lr 16=3689348814741910323:=EQ
 have c2:15*Es 8=1085102592571150095:=EQ
 have c3:(16:Nat)^16=18446744073709551616:=EQ
 have c4:4*lr 16=4919131752989213764:=EQ
 have s1:=ZwH 16 w AC;have l1:=ZwW 16 w;have s2:=ZxY 16 (st1 16 w) l1;rw[adB]at s2;have l2:=Zxx 16 w;have s3:=ZwJ 8 w;have Qn:(st2 16 w/16+st2 16 w)&&& 15*Es 8=FF 8 w:=s3;have⟨l,g1,g2,g3,g4⟩:=Zu8 8 w;have⟨n4,n5,n6,q4,q5,q6,q7,q8⟩:=ZyL l g1 g2;rw[c0]at s1;rw[c1]at s2;rw[c2]at Qn;have p:(oB w).length=l.sum:=by
  rw[<-g4];exact Zu1 16 w
 rw[ZAi,p,<-q8];unfold ocI;have f1:((w:Int)).fdiv (2^1)=((w/2:Nat):Int):=uh w 2;have a1:IntKind.wrap .u64 (bits .and .u64 ((w:Int).fdiv (2^1)) 6148914691236517205+bits .and .u64 (w:Int) 6148914691236517205)=((st1 16 w:Nat):Int):=by
  rw[f1];have h1:bits .and .u64 ((w/2:Nat):Int) 6148914691236517205=((w/2&&& 6148914691236517205:Nat):Int):=Ev AC EQ;have h2:bits .and .u64 (w:Int) 6148914691236517205=((w&&& 6148914691236517205:Nat):Int):=Ev h EQ;rw[h1,h2,<-DE,s1];exact rE
 generalize st1 16 w=y1 at a1 s2 l1;rw[a1];simp only;have f2:((y1:Int)).fdiv (2^2)=((y1/4:Nat):Int):=uh y1 4;have a2:IntKind.wrap .u64 (bits .and .u64 ((y1:Int).fdiv (2^2)) 3689348814741910323+bits .and .u64 (y1:Int) 3689348814741910323)=((st2 16 w:Nat):Int):=by
  rw[f2];have h1:bits .and .u64 ((y1/4:Nat):Int) 3689348814741910323=((y1/4&&& 3689348814741910323:Nat):Int):=Ev AC EQ;have h2:bits .and .u64 (y1:Int) 3689348814741910323=((y1&&& 3689348814741910323:Nat):Int):=Ev AC EQ;rw[h1,h2,<-DE,s2];exact rE
 generalize st2 16 w=y2 at a2 Qn l2;rw[a2];have f3:((y2:Int)).fdiv (2^4)=((y2/16:Nat):Int):=uh y2 16;have a3:bits .and .u64 (IntKind.wrap .u64 ((y2:Int).fdiv (2^4)+(y2:Int))) 1085102592571150095=((FF 8 w:Nat):Int):=by
  rw[f3,<-DE,rE];have h1:bits .and .u64 ((y2/16+y2:Nat):Int) 1085102592571150095=((y2/16+y2&&& 1085102592571150095:Nat):Int):=Ev AC EQ;rw[h1,Qn]
 rw[a3,g3];have f4:(Ep l:Int).fdiv (2^8)=((Ep l/256:Nat):Int):=uh _ 256;rw[f4,<-DE,<-q4,rE];have f5:(n4:Int).fdiv (2^16)=((n4/65536:Nat):Int):=uh _ 65536;rw[f5,<-DE,<-q5,rE];have f6:(n5:Int).fdiv (2^32)=((n5/4294967296:Nat):Int):=uh _ 4294967296;rw[f6,<-DE,<-q6,rE,Zc];exact ZAM q7
theorem Zo8: ∀(W:al) (a b:Nat),(∀w∈W,w<18446744073709551616)->a+64*W.length<1000000->JB (a:Int) W=((a+(vu b W).length:Nat):Int)
 |[],a,b,_,_=>rfl
 |w::r,a,b,h,hl=>by
  rw[cQ]at hl;have hb:=Nc w;unfold JB vu;rw[ZAa (h w Do)];have hw:ar ((a:Int)+(((oB w).length:Nat):Int))=((a+(oB w).length:Nat):Int):=Zc;rw[hw,Zo8 r (a+(oB w).length) (b+1) Fd AC,bz,lB];omega
theorem ZoX: ∀(b:Nat) (W:al),vu b W=((List.range (64*W.length)).filter (du W)).map λj=>((b*64+j:Nat):Int)
 |b,[]=>rfl
 |b,w::r=>by
  unfold vu;rw[ZoX (b+1) r,cQ,show 64*(r.length+1)=64+64*r.length by omega,List.range_add,FL,fB];have hA:(List.range 64).filter (du (w::r))=oB w:=by
   rfl
  have e:(du (w::r)∘λi=>64+i)=du r:=by
   funext j;simp[du]
  rw[hA,List.filter_map,zX,e];refine congrArg (_++ ·) (L9 λj _=>?_);grind
theorem ZrR (W:al):dB W=((List.range (64*W.length)).filter (du W)).map λj=>((j:Nat):Int):=by
 simp[dB,ZoX,oZ,eJ]
end Go.Gv.F
