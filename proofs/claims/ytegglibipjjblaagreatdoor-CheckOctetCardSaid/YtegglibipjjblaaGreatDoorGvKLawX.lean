/- The law of one octet that is another one. -/
import Derived.Test.YtegglibipjjblaaGreatDoorGvKOct
import Derived.Test.YtegglibipjjblaaGreatDoorGvKLawT
set_option linter.all false
namespace Go.Gv.F
set_option maxHeartbeats 4000000
open Go.Gv
theorem alv (c e:UInt8):bits .xor .u8 (c.toNat:Int) (e.toNat:Int)=(((c^^^e).toNat:Nat):Int):=by
 have h: ∀z:UInt8,BitVec.ofInt 8 (z.toNat:Int)=z.toBitVec:=λz=>by
  rw[BitVec.ofInt_natCast];exact BitVec.ofNat_toNat _ z.toBitVec|>.trans Do
 show IntKind.wrap .u8 ((BitVec.ofInt 8 (c.toNat:Int)^^^BitVec.ofInt 8 (e.toNat:Int)).toNat:Int)=_;rw[h,h];have:=(c^^^e).toNat_lt;rw[show(c.toBitVec^^^e.toBitVec).toNat=(c^^^e).toNat from rfl];show(((c^^^e).toNat:Nat):Int)%256=_;omega
theorem ZA3 {c e:UInt8} (h:e≠0):c^^^e≠c:=λhe=>h (by
 have:=congrArg (c^^^ ·) he;simpa [<-UInt8.xor_assoc]using this)
theorem Zv5 {B:aj} {s:cm} {v:aI} {e:Int} (hv:nW B=(some (s,v),e)):3<=(dz (s.aK.foldl (bA s.blocks.toNat) v.W)).length/\(dz (s.aK.foldl (bA s.blocks.toNat) v.W)).length<=50000/\
  ∀i,2<=i->i<(dz (s.aK.foldl (bA s.blocks.toNat) v.W)).length->∃j:Nat,(dz (s.aK.foldl (bA s.blocks.toNat) v.W))[i]? =some (j:Int)/\2<=j/\j<s.blocks.toNat:=by
 have⟨jS,hwf,y9⟩:=ZlS hv;have⟨_,hx,hb,HF,Hd,mq,K8,_⟩:=TF hv;have⟨oM,PZ⟩:=Up hwf;have⟨g1,g2,_⟩:=ZM hx.g;have⟨U,hU⟩: ∃U,dz (s.aK.foldl (bA s.blocks.toNat) v.W)=U:=⟨_,rfl⟩;have iL: ∀k:Nat,(k:Int)∈U↔cD v.W k=true\/((k:Int)∈s.aK/\k<s.blocks.toNat):=λk=>by
  rw[<-hU,Z7];constructor
  .rintro⟨b,e,h⟩
   have:b=k:=AC
   subst this;exact(uR _ mq b).1 h
  .intro h
   exact⟨k,rfl,(uR _ mq k).2 h⟩
 have adw: ∀k∈U,∃b:Nat,k=(b:Int):=λk hk=>by
  rw[<-hU]at hk;have⟨b,e,_⟩:=Z7.1 hk;exact⟨b,e⟩
 have PN:lZ U:=by rw[<-hU];exact yo _
 have loc:=Vq (K:=jJ B s) (K':=jJ B s) rfl rfl PZ;have JR: ∀b:Nat,b<2->(b:Int)∈U:=λb hb=>(iL b).2 (.inl (loc.mono b ((rb _ _).2 ⟨by
  match b,hb with
  |0,_=>simp
  |1,_=>simp,by show b<s.blocks.toNat;omega⟩)))
 have cU:0<s.aK.length:=by
  have:=hx.len;rw[Ui hx.g]at this;omega
 have J3:=(hx.ch 0 cU).1;have⟨c,hc⟩: ∃c,s.aK.getD 0 0=c:=⟨_,rfl⟩;rw[hc]at J3;have jC:=(DY s c).1 J3;have hcm:c∈s.aK:=by
  rw[<-hc,cz,cc cU];exact jj cU
 have hcU:c∈U:=by
  have:=(iL c.toNat).2 (.inr ⟨by rw[Ma AC];exact hcm,AC⟩);rwa [Ma AC]at this
 rw[hU];refine⟨?_,?_,λi hi j3=>?_⟩
 .have:[0,1,c].length<=U.length:=B4 (by simp;omega) λk hk=>by
   simp only[ep,tk,pD]at hk;rcases hk with rfl|rfl|rfl
   .exact JR 0 AC
   .exact JR 1 AC
   .exact hcU
  exact this
 .have:=SM (s.aK.foldl (bA s.blocks.toNat) v.W) (s.aK.foldl (bA s.blocks.toNat) v.W).length
  have⟨q1,q2⟩:=ZG s.blocks.toNat s.aK v.W;rw[rQ,q1,mq,hU]at this;omega
 .have hp:=HZ.1 PN
  have a:=hp 0 1 AC AC AC;have b:=hp 1 i AC j3 AC;have⟨n0,e0⟩:=adw _ (jj (AC:0<U.length));have⟨j,ej⟩:=adw _ (jj j3);refine⟨j,by rw[cc j3,ej],AC,?_⟩;have hm:=(iL j).1 (by rw[<-ej];exact jj j3);rcases hm with h|h
  .exact Hd j h
  .exact h.2
theorem law_law27_CheckOctet {Bd:Zg} (h:HA Bd) (s:St) (args:ah) (ua:Mr s) (ht:xe s) (hr:Mv s [(true,aet),(false,.i .i64),(false,.i .u8)] args): ∃n s',run Bd n 343 args s=some (.val [.bool true],s'):=by
 obtain⟨_,d,_,hx,iH,rfl,hd⟩:=hr;obtain⟨_,e,_,hy,KS,rfl,he⟩:=iH;obtain⟨_,f,_,hz,hr4,rfl,hf⟩:=KS;cases hr4;obtain⟨x,z1,p1,z2,p2,z3,p3,rfl,kD,iN,nF,cq,rg⟩:=akX hx;have hd:d= .agg (fa x z1 p1 z2 p2 z3 p3):=hd;subst hd;obtain⟨pos,rfl,gV,jC⟩:=hy;have he:_=[e]:=he;cases he;obtain⟨w,rfl,w1,w2⟩:=hz;have w1:0<=w:=w1;have w2:w<=255:=w2;have hf:_=[f]:=hf;cases hf;obtain⟨u,rfl⟩: ∃u:UInt8,w=(u.toNat:Int):=⟨UInt8.ofNat w.toNat,by rw[UInt8.toNat_ofNat_of_lt' (AC:w.toNat<256)];omega⟩;have hF:=cq.ak1 ua;refine ZAE (n:=100000) ?_;rw[Ze,h.ah6];unfold Q8 qZ bF az MB Jw jL nh Zm rW mN II Lb gG lA bj BP
 try dsimp only
 unfold fa;simp only[lB,au,Zh 2 z1 p1 _ kD,Zh 1 z2 p2 _ iN,Zh 1 z3 p3 _ nF,ao];refine Ok.cv (Zkf 99999 AC s ht) λs1 aH=>?_
 have K1:=ht.mono aH;rw[ar,ao];have aeB:Ok (λo:Out ah×St=>∃s',o=(.val [DV.bool true],s')) (c9 (run Bd 99999 322 []) (λds=>gT ds λx7 ds=>aF ds (aw [DV.bool x7])) s1):=by
  refine Ok.cv (Zkf 99999 AC s1 K1) λs3 dh=>?_
  rw[ar,ao,Zd];exact .mk ⟨s3,rfl⟩
 rw[Za,bI,af];have KZ:=cq.pre aH;refine Ok.call (Zp1 99999 x 2 1 1 p1 p2 p3 s1 (.inl rfl) (.inl rfl) (.inl rfl) KZ AC) ?_;rintro _ ⟨c,rfl,hc⟩;refine⟨_,s1,rfl,?_⟩;simp only[ar,ao];rw[Za];cases c with
 |false=>
  rw[bD,ae];simp only[ar,ao];rw[ae];exact aeB
 |true=>
 have sz:=(hc.1 rfl).sz;rw[bI,af];simp only[ar,ao];by_cases hu:u=0
 .subst hu
  rw[kT FS];exact aeB
 have sO:(((u.toNat:Int))==0)=false:=dM.2 λe=>hu (DC.1 (show u.toNat=(0:UInt8).toNat by show _=0;omega))
 rw[sO,af];refine Ok.call (Zkp 99999 x 2 1 1 p1 p2 p3 1 0 s1 (.inl rfl) (.inl rfl) (.inl rfl) (hF.kp aH.kp) sz) ?_;rintro _ ⟨s2,bd,hq⟩;rcases hq with⟨B,sp,ib,q,hm,hB,rfl,sv⟩|⟨_,rfl⟩
 rotate_left
 .refine⟨_,s2,rfl,?_⟩
  unfold ZvA;simp only[lB,au,Zh 1 0 none _ (.inr rfl),ar,ao];rw[bD,ae,Zd];exact .mk ⟨s2,rfl⟩
 refine⟨_,s2,rfl,?_⟩;have⟨v,kC,vz⟩:=Zwk hm rg.keys hB [];rw[fP]at kC;obtain⟨rfl,hP⟩:=ZnG hB;have⟨g1,g2,_⟩:=ZM hm.Cz;have OV:=hP.len;have fG:=hP.ok;have cU:=M3 fG;have⟨_,_,_,HF,_,mq,_,_,C5,_⟩:=TF kC;have⟨u1,u2,u3⟩:=Zv5 kC;have gW:bc s1 s2 (some (ib,0)) (bT B):=⟨bd,.inr ⟨ib,rfl,sv.new,sv.fu⟩⟩;have j5: ∀K:ah->M ah,dV (some (ib,0)) B.length K s2=K (bT B) s2:=λK=>by
  have:=j9 gW.sl K;rwa [Zw]at this
 have hwh:=ZpT 99999 B (eS x 1) q s2 AC sv.own.sl AC AC;have j7:=λp t (hp:aB s2 t) hs=>Zsh 99999 (eS x 1) q (dz v.W) p t (sv.own.sl.mono hp) hs (yo _) AC AC AC
 unfold dI at hwh j7⊢;simp only[aZ,lB,au,ar,ao];rw[bI,af,j5,<-qi,uJ];refine Ok.call hwh ?_;rw[HF];rintro o ⟨s3,dh,z1',q1,q2,q3,qr,rfl,akp,_,EU⟩;refine⟨_,s3,rfl,?_⟩;unfold fa;simp only[lB,au,Zh 2 z1' q1 _ akp,aZ,ar,ao];refine Ok.call (j7 qr s3 dh EU) ?_;rintro _ ⟨pu,r,s4,rfl,hJ,C8,hwp⟩;have xP:=ZAp (show 16<=(eS x 1).blocks from g1) mq hwp;subst xP;have⟨U,hU⟩: ∃U,dz ((eS x 1).aK.foldl (bA (eS x 1).blocks.toNat) v.W)=U:=⟨_,rfl⟩;have sG:=λj o y (hj:2<=j) Kf (ho:o<64)=>Zyx kC (j:=j) (o:=o) (y:=y) hj Kf ho
 rw[hU]at C8 u1 u2 u3 sG;refine⟨_,s4,rfl,?_⟩;rw[hU,aZ,ao,Za,bI,af,bP (AC:¬(U.length:Int)<3)];simp only[ar,ao];rw[af];have sJ: ∀(a:Int) (k:Nat) t,0<k->k<1000000-> -9223372036854775808<=a->a<=9223372036854775807->∃r:Nat,run Bd 99999 179 [.i a,.i (k:Nat)] t=some (.val [.i r],t)/\r<k:=λa k t h0 h1 h2 h3=>by
  have hm:=Int.emod_nonneg a (AC:(k:Int)≠0);have eG:=Int.emod_lt_of_pos a (AC:(0:Int)<(k:Nat));refine⟨(a%(k:Int)).toNat,?_,AC⟩;rw[ZlI 99998 a k h0 AC ⟨h2,h3⟩ t,Ma hm]
 have gV: -9223372036854775808<=pos:=gV;have jC:pos<=9223372036854775807:=jC;have EW: -9223372036854775808<=pos.tdiv 64/\pos.tdiv 64<9223372036854775808:=by
  rcases Int.le_total 0 pos with h0|h0
  .rw[L9 h0];omega
  .have e:pos.tdiv 64= -((-pos)/64):=by rw[<-L9 AC,Int.neg_tdiv,Int.neg_neg]
   rw[e];omega
 have⟨r,hr,adN⟩:=sJ (pos.tdiv 64) (U.length-2) s4 AC AC EW.1 AC;rw[Zb (x:=pos.tdiv 64) EW.1 EW.2,Zb (x:=(U.length:Int)-2),show(U.length:Int)-2=((U.length-2:Nat):Int) by omega,xr hr,au,ao];have⟨j,hj,xJ,zl⟩:=u3 (2+r) AC AC;have Kf:(j:Int)∈U:=qc hj;obtain⟨iu,ou,rfl⟩:=C8.cS (by rw[Zrt];omega);have da:(ints U)[2+r]? =some (.i j):=by
  unfold ints;rw[nf,hj];rfl
 rw[Zb (x:=2+(r:Int)),show(2+(r:Int))=((2+r:Nat):Int) by omega,bh,Zc (Zi),bn,C8.dX da,bg];have⟨o,ho,iz⟩:=sJ pos 64 s4 AC AC gV jC;rw[show(DV.int .i64 64)=DV.int .i64 ((64:Nat):Int)from rfl,qY ho (.refl _),au,ao];have hk:64*j+o<B.length:=by
  have:(eS x 1).blocks=x.blocks:=rfl;rw[this]at zl;omega
 have adE:=(gW.mono dh).mono hJ;have aL:(bT B)[64*j+o]? =some (.u (B[64*j+o].toNat:Nat)):=by
  unfold bT;rw[nf,cc hk];rfl
 rw[Zb (x:=64*(j:Int)),Zb (x:=64*(j:Int)+(o:Int)),show(64*(j:Int)+(o:Int))=((64*j+o:Nat):Int) by omega,bh,Zc (Zi hk),bn,adE.sl.dX aL,bg,bh,Zc (Zi hk),alv,cR,fE];have⟨t,C2,_,Yx⟩:=adE.st1 (Y:=ah) (k:=64*j+o) hk (B[64*j+o]^^^u);rw[Yx];have Ev:=sG j o (B[64*j+o]^^^u) xJ Kf iz hk (by rw[cc hk];exact λe=>ZA3 hu (DB e).symm);have⟨C,hC⟩: ∃C,B.set (64*j+o) (B[64*j+o]^^^u)=C:=⟨_,rfl⟩;have hCl:C.length=B.length:=by rw[<-hC,lz]
 rw[hC]at C2 Ev;have kU:=RQ 99999 (some (ib,0)) C t (K1.mono C2.1) C2.sl AC (λx' v' e' hw=>by rcases Ev with e|e<;>rw[e]at hw<;>cases hw);rw[hCl]at kU;refine Ok.call kU ?_;rintro o' ⟨s5,nC,oh⟩;rcases Ev with e|e
 .rw[e]at oh
  simp only at oh;subst oh;refine⟨_,s5,rfl,?_⟩;unfold N4;simp only[lB,au,ao];rw[Za,kT FS];simp only[ar,ao];rw[Zd];exact .mk ⟨s5,rfl⟩
 .rw[e]at oh
  simp only at oh;subst oh;refine⟨_,s5,rfl,?_⟩;unfold N4;simp only[lB,au,ao];rw[Za,show((32:Int)==31)=false from rfl,show((32:Int)==32)=true from rfl,af];simp only[ar,ao];rw[Zd];exact .mk ⟨s5,rfl⟩
