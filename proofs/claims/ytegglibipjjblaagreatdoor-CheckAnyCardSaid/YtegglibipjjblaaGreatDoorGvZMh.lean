/- How many bits a word has: the library's sum of fields is the number of its bits. -/
import Derived.Test.YtegglibipjjblaaGreatDoorGvZMe
set_option linter.all false
namespace Go.Gv.F
open Go.Gv
theorem Mw (a b c d:Nat) (ha:a<16:=by omega) (hc:c<16:=by omega):(a+16*b)&&& (c+16*d)=(a&&& c)+16*(b&&& d):=by
 have h1:a+16*b=2^4*b+a:=by omega
 have h2:c+16*d=2^4*d+c:=by omega
 have h3:(a&&& c)+16*(b&&& d)=2^4*(b&&& d)+(a&&& c):=by omega
 have Jy:a&&& c<2^4:=Dd Nat.and_le_left ha;rw[h1,h2,h3];refine Dc λj=>?_
 rw[HG,DF 4 _ _ j ha,DF 4 _ _ j hc,DF 4 _ _ j Jy];by_cases h:j<4
 .rw[bE h,bE h,bE h,HG]
 grind
theorem Zyb (a b c d:Nat) (ha:a<256) (hc:c<256):(a+256*b)&&& (c+256*d)=(a&&& c)+256*(b&&& d):=by
 have h1:a+256*b=2^8*b+a:=by omega
 have h2:c+256*d=2^8*d+c:=by omega
 have h3:(a&&& c)+256*(b&&& d)=2^8*(b&&& d)+(a&&& c):=by omega
 have Jy:a&&& c<2^8:=Dd Nat.and_le_left ha;rw[h1,h2,h3];refine Dc λj=>?_
 rw[HG,DF 8 _ _ j ha,DF 8 _ _ j hc,DF 8 _ _ j Jy];by_cases h:j<8
 .rw[bE h,bE h,bE h,HG]
 grind
def kU:Nat->Nat
 |0=>0
 |k+1=>1+16*kU k
def DS:Nat->Nat
 |0=>0
 |k+1=>1+256*DS k
def lT (n:Nat):Nat:=((List.range 4).filter (eE n)).length
def g1 (n:Nat):Nat:=(n/2&&& 5)+(n&&& 5)
def st1:Nat->Nat->Nat
 |0,_=>0
 |k+1,x=>g1 (x%16)+16*st1 k (x/16)
def st2:Nat->Nat->Nat
 |0,_=>0
 |k+1,x=>lT (x%16)+16*st2 k (x/16)
def EU:Nat->Nat->Nat
 |0,_=>0
 |k+1,x=>(lT (x%16)+lT (x/16%16))+256*EU k (x/256)
theorem Ab: ∀n,n<16->g1 n<16/\lT n<=4/\(g1 n/4+g1 n%4)=lT n/\(n/2+8)&&& 5=n/2&&& 5:=by decide+kernel
theorem adx: ∀n,n<16->n&&& 3=n%4:=by decide+kernel
theorem ady: ∀n,n<16->∀b,b<4->(n/4+4*b)&&& 3=n/4:=by decide+kernel
theorem Zxv: ∀(k x:Nat),x<16^k->(x/2&&& 5*kU k)+(x&&& 5*kU k)=st1 k x
 |0,x,h=>by
  have:x=0:=by simp at h;exact h
  subst this;rfl
 |k+1,x,h=>by
  have EC:x/16<16^k:=by rw[uz]at h;omega
  have ih:=Zxv k (x/16) EC;have e1:5*kU (k+1)=5+16*(5*kU k):=by show 5*(1+16*kU k)=_;omega
  have e2:x=x%16+16*(x/16):=by omega
  have e3:x/2=(x%16/2+8*(x/16%2))+16*(x/16/2):=by omega
  have hn:x%16<16:=by omega
  have e4:(x%16/2+8*(x/16%2))&&& 5=x%16/2&&& 5:=by
   rcases P3 (x/16)with hb|hb
   .rw[hb];rfl
   .rw[hb];exact(Ab _ hn).2.2.2
  have a1:x/2&&& 5*kU (k+1)=(x%16/2&&& 5)+16*(x/16/2&&& 5*kU k):=by
   rw[e1]
   conv=>lhs;rw[e3]
   rw[Mw _ _ _ _,e4]
  have a2:x&&& 5*kU (k+1)=(x%16&&& 5)+16*(x/16&&& 5*kU k):=by
   rw[e1]
   conv=>lhs;rw[e2]
   rw[Mw _ _ _ _ hn]
  rw[a1,a2];unfold st1 g1;omega
def La:Nat->Nat->Nat
 |0,_=>0
 |k+1,y=>(y%16/4+y%16%4)+16*La k (y/16)
theorem Zwp: ∀(k y:Nat),y<16^k->(y/4&&& 3*kU k)+(y&&& 3*kU k)=La k y
 |0,y,h=>by
  have:y=0:=by simp at h;exact h
  subst this;rfl
 |k+1,y,h=>by
  have EC:y/16<16^k:=by rw[uz]at h;omega
  have ih:=Zwp k (y/16) EC;have e1:3*kU (k+1)=3+16*(3*kU k):=by show 3*(1+16*kU k)=_;omega
  have e2:y=y%16+16*(y/16):=by omega
  have e3:y/4=(y%16/4+4*(y/16%4))+16*(y/16/4):=by omega
  have hn:y%16<16:=by omega
  have a1:y/4&&& 3*kU (k+1)=y%16/4+16*(y/16/4&&& 3*kU k):=by
   rw[e1]
   conv=>lhs;rw[e3]
   rw[Mw _ _ _ _,ady _ hn _ (by omega)]
  have a2:y&&& 3*kU (k+1)=y%16%4+16*(y/16&&& 3*kU k):=by
   rw[e1]
   conv=>lhs;rw[e2]
   rw[Mw _ _ _ _ hn,adx _ hn]
  rw[a1,a2];show _=(y%16/4+y%16%4)+16*La k (y/16);omega
theorem Zw3: ∀(k x:Nat),st1 k x<16^k
 |0,x=>Nat.zero_lt_one
 |k+1,x=>by
  have:=Zw3 k (x/16);have h2:=(Ab (x%16) (by omega)).1;show g1 (x%16)+16*st1 k (x/16)<_;rw[uz];omega
theorem acR: ∀(k x:Nat),La k (st1 k x)=st2 k x
 |0,x=>rfl
 |k+1,x=>by
  have⟨h1,h2,h3,_⟩:=Ab (x%16) (by omega);have e1:st1 (k+1) x%16=g1 (x%16):=by show(g1 (x%16)+16*st1 k (x/16))%16=_;omega
  have e2:st1 (k+1) x/16=st1 k (x/16):=by show(g1 (x%16)+16*st1 k (x/16))/16=_;omega
  have ih:=acR k (x/16);show(st1 (k+1) x%16/4+st1 (k+1) x%16%4)+16*La k (st1 (k+1) x/16)=_;rw[e1,e2,h3,ih];rfl
theorem ZyV: ∀(k x:Nat),st2 k x%16<=4
 |0,x=>cz _
 |k+1,x=>by
  have h2:=(Ab (x%16) (by omega)).2.1;show(lT (x%16)+16*st2 k (x/16))%16<=4;omega
theorem Zwg: ∀(j x:Nat),(st2 (2*j) x/16+st2 (2*j) x)&&& 15*DS j=EU j x
 |0,x=>Nat.and_zero _
 |j+1,x=>by
  have hx:=Zwg j (x/256);have hd:=ZyV (2*j) (x/256);have h1:=(Ab (x%16) (by omega)).2.1;have h2:=(Ab (x/16%16) (by omega)).2.1;have e0:st2 (2*(j+1)) x=lT (x%16)+16*(lT (x/16%16)+16*st2 (2*j) (x/256)):=by
   show lT (x%16)+16*(lT (x/16%16)+16*st2 (2*j) (x/16/16))=_;rw[Ff]
  have e1:15*DS (j+1)=15+256*(15*DS j):=by show 15*(1+256*DS j)=_;omega
  show _=(lT (x%16)+lT (x/16%16))+256*EU j (x/256);rw[e0,e1];generalize st2 (2*j) (x/256)=y at hx hd;generalize lT (x%16)=p at h1;generalize lT (x/16%16)=r at h2;have e2:(p+16*(r+16*y))/16+(p+16*(r+16*y))=(p+r+16*(r+y%16))+256*(y/16+y):=by omega
  rw[e2,Zyb _ _ _ _ (by omega) (by omega),hx];have e3:(p+r+16*(r+y%16))&&& 15=p+r:=by
   have:(p+r+16*(r+y%16))&&& (2^4-1)=(p+r+16*(r+y%16))%2^4:=P1 _ 4;rw[show(2:Nat)^4-1=15 from rfl,show(2:Nat)^4=16 from rfl]at this;rw[this];omega
  rw[e3]
def Py:Nat->Nat->Nat
 |0,_=>0
 |k+1,x=>lT (x%16)+Py k (x/16)
theorem ZvG (x i:Nat):eE x (4+i)=eE (x/16) i:=by
 simp[eE,Nat.pow_add,Ff]
theorem Zyj (x:Nat): ∀i,i<4->eE x i=eE (x%16) i:=λi hi=>by
 have:i=0\/i=1\/i=2\/i=3:=by omega
 grind[eE]
theorem ZuJ: ∀(k x:Nat),((List.range (4*k)).filter (eE x)).length=Py k x
 |0,x=>rfl
 |k+1,x=>by
  have e:4*(k+1)=4+4*k:=by omega
  rw[e,List.range_add,E9,bB,List.filter_map,lG];have h1:(List.range 4).filter (eE x)=(List.range 4).filter (eE (x%16)):=List.filter_congr λi hi=>Zyj x i (ux.1 hi)
  have h2:(eE x∘λi=>4+i)=eE (x/16):=funext λi=>ZvG x i
  rw[h1,h2,ZuJ k (x/16)];rfl
def DY:al->Nat
 |[]=>0
 |b::r=>b+256*DY r
theorem ZuO: ∀(j x:Nat),∃l:al,l.length=j/\(∀b∈l,b<=8)/\EU j x=DY l/\Py (2*j) x=l.sum
 |0,x=>⟨[],rfl,(λ_ h=>by cases h),rfl,rfl⟩
 |j+1,x=>by
  have⟨l,h1,h2,h3,h4⟩:=ZuO j (x/256);have p1:=(Ab (x%16) (by omega)).2.1;have p2:=(Ab (x/16%16) (by omega)).2.1;refine⟨(lT (x%16)+lT (x/16%16))::l,by rw[cO,h1],λb hb=>?_,?_,?_⟩
  .grind
  .show(lT (x%16)+lT (x/16%16))+256*EU j (x/256)=_
   rw[h3];rfl
  .show lT (x%16)+(lT (x/16%16)+Py (2*j) (x/16/16))=_
   rw[Ff,h4,List.sum_cons];omega
variable {n w y:Nat}
theorem BL {l:al} (h:l.length=n+1): ∃b r,l=b::r/\r.length=n:=by
 cases l with
 |nil=>cases h
 |cons b r=>grind
theorem ZAs (b0 b1 b2 b3 b4 b5 b6 b7:Nat):b0+256*(b1+256*(b2+256*(b3+256*(b4+256*(b5+256*(b6+256*b7))))))+(b1+256*(b2+256*(b3+256*(b4+256*(b5+256*(b6+256*b7))))))=((b0+b1)+256*(b1+b2))+65536*(((b2+b3)+256*(b3+b4))+65536*(((b4+b5)+256*(b5+b6))+65536*((b6+b7)+256*b7))):=by omega
theorem ZAk (b Y:Nat) (h:b<=8):(b+256*Y)/256=Y:=by omega
theorem Zwq (P0 Q:Nat) (l0:P0<=4112):(P0+65536*Q)/65536=Q:=by omega
theorem ZxF (P0 P2 P4 P6:Nat):P0+65536*(P2+65536*(P4+65536*P6))+(P2+65536*(P4+65536*P6))=(P0+P2)+65536*(P2+P4)+4294967296*(P4+65536*P6+P6):=by omega
theorem ZwT (P0 P2 P4 Q:Nat) (l0:P0<=4112) (l2:P2<=4112) (l4:P4<=4112):(P0+P2+65536*(P2+P4)+4294967296*Q)/4294967296=Q:=by omega
theorem ZzZ (P0 P2 P4 P6:Nat):(P0+P2+65536*(P2+P4)+4294967296*(P4+65536*P6+P6)+(P4+65536*P6+P6))%128=(P0+P2+P4+P6)%128:=by omega
theorem Zzl (b0 b1 b2 b3 b4 b5 b6 b7:Nat) (h0:b0<=8) (h1:b1<=8) (h2:b2<=8) (h3:b3<=8) (h4:b4<=8) (h5:b5<=8) (h6:b6<=8) (h7:b7<=8):(((b0+b1)+256*(b1+b2))+((b2+b3)+256*(b3+b4))+((b4+b5)+256*(b5+b6))+((b6+b7)+256*b7))%128=b0+(b1+(b2+(b3+(b4+(b5+(b6+b7)))))):=by omega
theorem ZyA (l:al) (hl:l.length=8) (hb: ∀b∈l,b<=8): ∃n4 n5 n6,n4=DY l+DY l/256/\n5=n4+n4/65536/\n6=n5+n5/4294967296/\n6<9223372036854775808/\n6%128=l.sum:=by
 have⟨b0,r0,e0,k0⟩:=BL hl;subst e0;have⟨b1,r1,e1,k1⟩:=BL k0;subst e1;have⟨b2,r2,e2,k2⟩:=BL k1;subst e2;have⟨b3,r3,e3,k3⟩:=BL k2;subst e3;have⟨b4,r4,e4,k4⟩:=BL k3;subst e4;have⟨b5,r5,e5,k5⟩:=BL k4;subst e5;have⟨b6,r6,e6,k6⟩:=BL k5;subst e6;have⟨b7,r7,e7,k7⟩:=BL k6;subst e7;have hr:r7=[]:=zu.1 k7;subst hr;simp only[eF,tl,oH,forall_eq_or_imp,forall_eq]at hb;have⟨h0,h1,h2,h3,h4,h5,h6,h7⟩:=hb;have hv:DY [b0,b1,b2,b3,b4,b5,b6,b7]=b0+256*(b1+256*(b2+256*(b3+256*(b4+256*(b5+256*(b6+256*b7)))))):=rfl;have hs:([b0,b1,b2,b3,b4,b5,b6,b7]:al).sum=b0+(b1+(b2+(b3+(b4+(b5+(b6+b7)))))):=rfl;rw[hv,hs,ZAk _ _ h0,ZAs,<-Zzl b0 b1 b2 b3 b4 b5 b6 b7 h0 h1 h2 h3 h4 h5 h6 h7];have l0:(b0+b1)+256*(b1+b2)<=4112:=by omega
 have l2:(b2+b3)+256*(b3+b4)<=4112:=by omega
 have l4:(b4+b5)+256*(b5+b6)<=4112:=by omega
 have l6:(b6+b7)+256*b7<=4112:=by omega
 generalize (b0+b1)+256*(b1+b2)=P0 at l0;generalize (b2+b3)+256*(b3+b4)=P2 at l2;generalize (b4+b5)+256*(b5+b6)=P4 at l4;generalize (b6+b7)+256*b7=P6 at l6;refine⟨_,_,_,rfl,rfl,rfl,?_,?_⟩
 .rw[Zwq _ _ l0,ZxF,ZwT _ _ _ _ l0 l2 l4]
  omega
 .rw[Zwq _ _ l0,ZxF,ZwT _ _ _ _ l0 l2 l4]
  exact ZzZ _ _ _ _
theorem Zxc: ∀(k x:Nat),st2 k x<=4*kU k
 |0,_=>aO _
 |k+1,x=>by
  have h2:=(Ab (x%16) (by omega)).2.1;have:=Zxc k (x/16);show lT (x%16)+16*st2 k (x/16)<=4*(1+16*kU k);omega
def ocI (x:Int):Int:=
 (λx1:Int=>(λx2:Int=>(λx3:Int=>(λx4:Int=>(λx5:Int=>(λx6:Int=>bits .and .i64 (ar x6) 127)
  (IntKind.wrap .u64 (x5+x5.fdiv (2^32)))) (IntKind.wrap .u64 (x4+x4.fdiv (2^16)))) (IntKind.wrap .u64 (x3+x3.fdiv (2^8))))
  (bits .and .u64 (IntKind.wrap .u64 (x2.fdiv (2^4)+x2)) 1085102592571150095))
  (IntKind.wrap .u64 (bits .and .u64 (x1.fdiv (2^2)) 3689348814741910323+bits .and .u64 x1 3689348814741910323)))
  (IntKind.wrap .u64 (bits .and .u64 (x.fdiv (2^1)) 6148914691236517205+bits .and .u64 x 6148914691236517205))
theorem ZzM (x:Int):Px x=ocI x:=rfl
theorem ZAq (h:y<9223372036854775808):bits .and .i64 (y:Int) 127=((y%128:Nat):Int):=by
 show IntKind.wrap .i64 ((BitVec.ofInt 64 (y:Int)&&& BitVec.ofInt 64 (127:Int)).toNat:Int)=_;have e2:(BitVec.ofInt 64 (127:Int)).toNat=2^7-1:=by decide
 rw[Ll,Gg,e2,P1];exact Zc
theorem ZzT (h:w<18446744073709551616):Px (w:Int)=(((oh w).length:Nat):Int):=by
 have c0:5*kU 16=6148914691236517205:=by decide
 have c1:3*kU 16=3689348814741910323:=by decide
 have c2:15*DS 8=1085102592571150095:=by decide
 have c3:(16:Nat)^16=18446744073709551616:=by decide
 have c4:4*kU 16=4919131752989213764:=by decide
 have s1:=Zxv 16 w (by omega);have l1:=Zw3 16 w;have s2:=Zwp 16 (st1 16 w) l1;rw[acR]at s2;have l2:=Zxc 16 w;have s3:=Zwg 8 w;have PE:(st2 16 w/16+st2 16 w)&&& 15*DS 8=EU 8 w:=s3;have⟨l,g1,g2,g3,g4⟩:=ZuO 8 w;have⟨n4,n5,n6,q4,q5,q6,q7,q8⟩:=ZyA l g1 g2;rw[c0]at s1;rw[c1]at s2;rw[c2]at PE;have p:(oh w).length=l.sum:=by
  rw[<-g4];exact ZuJ 16 w
 rw[ZzM,p,<-q8];unfold ocI;have f1:((w:Int)).fdiv (2^1)=((w/2:Nat):Int):=tB w 2;have a1:IntKind.wrap .u64 (bits .and .u64 ((w:Int).fdiv (2^1)) 6148914691236517205+bits .and .u64 (w:Int) 6148914691236517205)=((st1 16 w:Nat):Int):=by
  rw[f1];have h1:bits .and .u64 ((w/2:Nat):Int) 6148914691236517205=((w/2&&& 6148914691236517205:Nat):Int):=D1 (by omega) (by decide);have h2:bits .and .u64 (w:Int) 6148914691236517205=((w&&& 6148914691236517205:Nat):Int):=D1 h (by decide);rw[h1,h2,<-C7,s1];exact qQ
 generalize st1 16 w=y1 at a1 s2 l1;rw[a1];simp only;have f2:((y1:Int)).fdiv (2^2)=((y1/4:Nat):Int):=tB y1 4;have a2:IntKind.wrap .u64 (bits .and .u64 ((y1:Int).fdiv (2^2)) 3689348814741910323+bits .and .u64 (y1:Int) 3689348814741910323)=((st2 16 w:Nat):Int):=by
  rw[f2];have h1:bits .and .u64 ((y1/4:Nat):Int) 3689348814741910323=((y1/4&&& 3689348814741910323:Nat):Int):=D1 (by omega) (by decide);have h2:bits .and .u64 (y1:Int) 3689348814741910323=((y1&&& 3689348814741910323:Nat):Int):=D1 (by omega) (by decide);rw[h1,h2,<-C7,s2];exact qQ
 generalize st2 16 w=y2 at a2 PE l2;rw[a2];have f3:((y2:Int)).fdiv (2^4)=((y2/16:Nat):Int):=tB y2 16;have a3:bits .and .u64 (IntKind.wrap .u64 ((y2:Int).fdiv (2^4)+(y2:Int))) 1085102592571150095=((EU 8 w:Nat):Int):=by
  rw[f3,<-C7,qQ];have h1:bits .and .u64 ((y2/16+y2:Nat):Int) 1085102592571150095=((y2/16+y2&&& 1085102592571150095:Nat):Int):=D1 (by omega) (by decide);rw[h1,PE]
 rw[a3,g3];have f4:(DY l:Int).fdiv (2^8)=((DY l/256:Nat):Int):=tB _ 256;rw[f4,<-C7,<-q4,qQ];have f5:(n4:Int).fdiv (2^16)=((n4/65536:Nat):Int):=tB _ 65536;rw[f5,<-C7,<-q5,qQ];have f6:(n5:Int).fdiv (2^32)=((n5/4294967296:Nat):Int):=tB _ 4294967296;rw[f6,<-C7,<-q6,qQ,Zc];exact ZAq q7
theorem Zpw: ∀(W:al) (a b:Nat),(∀w∈W,w<18446744073709551616)->a+64*W.length<1000000->IS (a:Int) W=((a+(uQ b W).length:Nat):Int)
 |[],a,b,_,_=>rfl
 |w::r,a,b,h,hl=>by
  rw[cO]at hl;have hb:=MG w;unfold IS uQ;rw[ZzT (h w (by simp))];have hw:ar ((a:Int)+(((oh w).length:Nat):Int))=((a+(oh w).length:Nat):Int):=Zc;rw[hw,Zpw r (a+(oh w).length) (b+1) (by grind) (by omega),bB,lG];omega
theorem Zpc: ∀(b:Nat) (W:al),uQ b W=((List.range (64*W.length)).filter (di W)).map λj=>((b*64+j:Nat):Int)
 |b,[]=>rfl
 |b,w::r=>by
  unfold uQ;rw[Zpc (b+1) r,cO,show 64*(r.length+1)=64+64*r.length by omega,List.range_add,E9,fq];have hA:(List.range 64).filter (di (w::r))=oh w:=by
   rfl
  have e:(di (w::r)∘λi=>64+i)=di r:=by
   funext j;simp[di]
  rw[hA,List.filter_map,zw,e];refine congrArg (_++ ·) (Lo λj _=>?_);grind
theorem Zrd (W:al):dq W=((List.range (64*W.length)).filter (di W)).map λj=>((j:Nat):Int):=by
 simp[dq,Zpc,tn,eO]
end Go.Gv.F
