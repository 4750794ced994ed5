/- The law of charts. -/
import Derived.Test.YtegglibipjjblaaGreatDoorGvZMg
import Derived.Test.YtegglibipjjblaaGreatDoorGvMLawT
namespace Go.Gv.F
set_option maxHeartbeats 4000000
open Go.Gv
theorem ZyP {m:Nat} {W V:List Nat} (hw:W.length=(m+63)/64) (hv:V.length=(m+63)/64) (h1: ∀w∈W,w<18446744073709551616) (h2: ∀w∈V,w<18446744073709551616):eI W=eI V↔W=V:=by
 refine⟨fun h=>I9 (by rw[hw,hv]) h1 h2 fun b=>?_,fun h=>by rw[h]⟩;have key: ∀ {A:List Nat},cR A b=true↔(b:Int)∈eI A:=fun {A} =>by
  rw[qC];constructor
  ·exact fun h=>⟨b,rfl,h⟩
  ·rintro⟨b',e,h⟩
   have:b'=b:=by omega
   subst this;exact h
 rw[jY,key,key,h]
theorem ZzB (m:Nat) (l:List Int):(gm m l).length=(m+63)/64/\∀w∈gm m l,w<18446744073709551616:=by
 unfold gm;obtain⟨h1,h2⟩:=Z8 m l (List.replicate ((m+63)/64) 0);exact⟨by rw[h1];simp,h2 fun w hw=>by rw[List.mem_replicate]at hw;omega⟩
theorem ZyC {B:List UInt8} {i k:Nat} {w:UInt8} (h:64*k+64<=i):dR (B.set i w) k=dR B k:=by
 unfold dR;refine na fun j=>?_
 rw[lg,lg];split
 ·rw[lR,lR,eu (by omega)]
 ·rfl
theorem Zv9 {B:List UInt8} {x:nv} {k:Nat} (hB:64<=B.length) (h:k<qJ x B.length):dR (rS B x) k=dR B k:=by
 have hm:=OF x hB;have hs:dR (B.set (64*qJ x B.length+(x.bT%64).toNat) x.w) k=dR B k:=ZyC (by omega);unfold rS;simp only;cases x.again with
 |false=>exact hs
 |true=>
  rw[cond_true,Zql (by rw[hU];omega) h];exact hs
theorem Fin.lines {B C:List UInt8} {m:bp} (h:Fin B m) (k: ∀i,i<m.next->dR C i=dR B i):Fin C m:=⟨h.room,fun i h1 h2=>(k i h2).trans (h.line i h1 h2)⟩
theorem ZvR (x y:Int): ∃w:UInt8,bits .xor .u8 x y=((w.toNat:Nat):Int):=⟨_,Pn ((BitVec.ofInt IntKind.u8.bits x^^^BitVec.ofInt IntKind.u8.bits y).toNat:Int)⟩
theorem law_law26_MarkCharts {Bd:Za} (h:Zhz Bd) (s:St) (args:List DV) (rf:FH s) (ht:ux s) (hr:FJ s [(true,We),(false,.sl (.i .i64)),(false,.sl (.i .i64))] args): ∃n s',run Bd n 175 args s=some (.val [.bool true],s'):=by
 obtain⟨_,d,_,hx,jz,rfl,hd⟩:=hr;obtain⟨_,e,_,hy,Eg,rfl,he⟩:=jz;obtain⟨_,e2,_,hy2,hr4,rfl,wU⟩:=Eg;cases hr4;obtain⟨x,z1,p1,z2,p2,z3,p3,rfl,jn,gZ,jR,bB,rg⟩:=aaq hx;have hd:d= .agg (dA x z1 p1 z2 p2 z3 p3):=hd;subst hd;have he:_=[e]:=he;subst he;have wU:_=[e2]:=wU;subst wU;obtain⟨pe,extra,⟨ze,hze,rfl⟩,vw,hre⟩:=Jy hy;obtain⟨pr,reach,⟨zr,EA,rfl⟩,SG,SA⟩:=Jy hy2;have hF:=bB.aaw rf;refine ZAX (n:=100000) ?_;rw[Zf,h.eq];unfold F5;rw[ll];unfold dA;simp only[al,Zm 2 z1 p1 _ jn,Zm 1 z2 p2 _ gZ,Zm 1 z3 p3 _ jR,Zm 1 ze pe _ hze,Zm 1 zr pr _ EA,ae];refine Ok.call (Zkx h.q64 99999 (by omega) s ht) ?_;rintro _ ⟨s1,rfl,aI⟩;refine⟨_,s1,rfl,?_⟩;have En:=ht.mono aI;have BK:=bB.pre aI;simp only[ai,ae];have T8: ∀s2,ar s1 s2->Ok (fun o:Out (List DV)×St=>∃s',o=(.val [DV.bool true],s')) (M.call (run Bd 99999 169 []) (fun ds=>J.b ds fun x7 ds=>D.nil ds (M.ret [DV.bool x7])) s2):=by
  intro s2 bd;refine Ok.call (Zkx h.q64 99999 (by omega) s2 (En.mono bd)) ?_;rintro _ ⟨s3,rfl,cn⟩;refine⟨_,s3,rfl,?_⟩;simp only[ai,ae,Ze];exact .mk ⟨s3,rfl⟩
 rw[Zc,bx,cond_false];refine Ok.call (Zrw h.q63 99999 x 2 1 1 p1 p2 p3 s1 (.inl rfl) (.inl rfl) (.inl rfl) BK (by omega)) ?_;rintro _ ⟨b,rfl,hb⟩;refine⟨_,s1,rfl,?_⟩;simp only[ai,ae];rw[Zc];cases b with
 |false=>
  rw[bD,cond_true];simp only[ai,ae];rw[Zc,cond_true];simp only[ai,ae];rw[cond_true];exact T8 s1 (.refl _)
 |true=>
 have sm:=hb.1 rfl;have sz:=sm.sz;rw[bx,cond_false];simp only[ai,ae];rw[Zc];by_cases KI:(extra.length:Int)>20
 ·rw[ah KI,cond_true]
  simp only[ai,ae];rw[cond_true];exact T8 s1 (.refl _)
 rw[ao KI,cond_false];simp only[ai,ae];by_cases xl:(reach.length:Int)>60
 ·rw[ah xl,cond_true]
  exact T8 s1 (.refl _)
 rw[ao xl,cond_false];refine Ok.call (Zkz h.TE 99999 x 2 1 1 p1 p2 p3 1 0 s1 (.inl rfl) (.inl rfl) (.inl rfl) (hF.kp aI.kp) sz (by omega) (by omega)) ?_;rintro _ ⟨s2,bd,hq⟩;rcases hq with⟨B,sp,ib,q,hm,hB,rfl,kK⟩|⟨_,rfl⟩
 rotate_left
 ·refine⟨_,s2,rfl,?_⟩
  unfold Zw4;simp only[Zm 1 0 none _ (.inr rfl)];rw[ll];simp only[al,Zm 1 0 none _ (.inr rfl),ai,ae];rw[bD,cond_true,Ze];exact .mk ⟨s2,rfl⟩
 refine⟨_,s2,rfl,?_⟩;obtain⟨v,nQ,sr,hv3⟩:=ZyE hm rg.keys hB;obtain⟨rfl,hP⟩:=Zn2 hB;obtain⟨g1,g2,_⟩:=rM hm.yD;have vv:=hP.room;have Dw:=hP.len;have yI:dp s2 (some (ib,0)) B:=⟨false,bj B,kK.bT,by omega,by rw[dE,pj]⟩;have dq:(cM x 1).az.length=gH x:=by
  show(Zt _ _).length=_;rw[Z0]
 have Vb:gH x=(x.blocks.toNat+383)/384:=rfl;have tz:x.blocks.toNat<=3072:=by omega
 have gB:=En.mono bd;have y9:=BK.pre bd;have SM:=Ng h.ER 99999 (some (ib,0)) B (cM x 1) q s2 yI kK.own.sl (by omega) (by omega) (by omega);have KF:=fun s3 (cn:ar s2 s3) a C (hC:dp s3 a C) (Dy:C.length=B.length) pr rm (Eh:Zw6 s3 rm pr)=>ZjU h.TA 99999 a C (cM x 1) q rm pr s3 (gB.mono cn) hC (kK.own.sl.mono cn) Eh (by omega) (by omega) (by omega)
 have Vr:=fun s3 (cn:ar s2 s3) C (Dy:C.length=B.length) l p (hf:Sl s3 p (ints l)) (xk:l9 l) hl hx=>Zoz h.q42 99999 C (cM x 1) q l p s3 (kK.own.sl.mono cn) hf xk hl hx (show x.blocks<1000000 by omega) (by omega) (by omega)
 simp only[bh];rw[ll];have La:=kK.own.sl;unfold dI at SM KF Vr⊢;simp only[al,bh,ai,ae];rw[bx,cond_false];refine Ok.call SM ?_;rw[nQ];rintro o ⟨s3,Fk,q2,Fl,q3,z4',q4,i,j,rfl,cn,e2,e3,e4,abw,cg,si,w4⟩;refine⟨_,s3,rfl,?_⟩;have SJ:=gB.mono cn;rw[ll];unfold dA;simp only[al,Zm 2 Fk q2 _ e2,Zm 1 Fl q3 _ e3,Zm 1 z4' q4 _ e4,fm,ae];rw[Zc,show(!((0:Int)==0))=false from rfl,cond_false];simp only[ai,ae];rw[show(Option.isNone (some (i,0)))=false from rfl,cond_false];refine Ok.call (Zm3 h.ES (Wh h.ES.q9) 99999 s3 SJ cg (by omega)) ?_;rintro _ ⟨pl,s4,rfl,gA,Vx,abv⟩;refine⟨_,s4,rfl,?_⟩;simp only[bh,ae];have VC:=SG.mono (aI.trans (bd.trans (cn.trans gA)));obtain⟨m,ji⟩: ∃m:Nat,x.blocks=(m:Int):=⟨x.blocks.toNat,by omega⟩;have ij:x.blocks.toNat=m:=by omega
 refine Ok.call (ZvD h.aan 99999 reach 1 pr x.blocks s4 (.inl rfl) VC (by omega) (by omega)) ?_;rintro _ ⟨po,other,s5,rfl,ik,ra,xm,hmo⟩;refine⟨_,s5,rfl,?_⟩;simp only[bh,ae];have hof:=Iz h.xK 99999 m reach pr s5 (by omega) (VC.mono ik) (by omega) (by omega);obtain⟨s6,e6,yY,_,Yl⟩:=hof;rw[ji,AH e6];simp only[fm,ae];have hW:=hv3;have hlw:v.W.length=(m+63)/64:=by rw[hW.len,ij]
 obtain⟨so1,so2⟩:=ZzB m reach;have UH:rY B (cM x 1) v.W=true:=Zww hm hP hv3;have Xf:rR B (cM x 1) (some (m,gm m reach))=decide (v.W=gm m reach):=by
  unfold rR;rw[nQ];simp only;rw[UH,ah (show(cM x 1).blocks.toNat=m from ij),cI,vQ]
 have Sr:ar s2 s6:=cn.trans (gA.trans (ik.trans yY));have fQ:=KF s6 Sr _ B (yI.mono Sr) rfl _ (some (m,gm m reach)) ⟨false,_,_,rfl,Yl⟩;refine Ok.fW fQ ?_;rintro _ ⟨s7,rfl,xh⟩;refine⟨_,s7,rfl,?_⟩;rw[Xf];simp only[ai,ae];have Vk:other=eI (gm m reach):=Ow xm (NO _) fun k=>by
  rw[hmo,qC,ji];constructor
  ·rintro⟨h1,h2,h3⟩
   exact⟨k.toNat,by omega,(uJ _ _).2 ⟨by rw[Int.toNat_of_nonneg h2];exact h1,by omega⟩⟩
  ·rintro⟨b,rfl,hb⟩
   have:=(uJ _ _).1 hb;exact⟨this.1,by omega,by omega⟩
 have abj:(eI v.W).length<5000:=by
  have:=IH 0 v.W;show(qI 0 v.W).length<_;omega
 have gQ:other.length<=50000:=by
  rw[Vk];have:=IH 0 (gm m reach);show(qI 0 (gm m reach)).length<=_;omega
 refine Ok.call (ZrK h.q94 99999 other (eI v.W) po pl s7 (ra.mono (yY.trans xh)) (Vx.mono (ik.trans (yY.trans xh))) (by omega) gQ) ?_;rintro _ rfl;refine⟨_,s7,rfl,?_⟩;simp only[ai,ae];have heq:(decide (v.W=gm m reach)==decide (other=eI v.W))=true:=by
  rw[mu];refine FE.2 ?_;rw[Vk];constructor
  ·intro e
   rw[<-e]
  ·intro e
   exact((ZyP so1 hlw so2 hW.lt).1 e).symm
 rw[Zc,heq,bx,cond_false];have Ss:ar s2 s7:=Sr.trans xh;have jv:=KF s7 Ss _ B (yI.mono Ss) rfl none none rfl;refine Ok.call jv ?_;rintro _ ⟨s8,rfl,Eb⟩;refine⟨_,s8,rfl,?_⟩;have Xg:rR B (cM x 1) none=false:=by
  unfold rR;rw[nQ]
 rw[Xg];simp only[ai,ae];rw[cond_false];have K6:ar s2 s8:=Ss.trans Eb;have Yh:=vw.mono (aI.trans (bd.trans K6));have aa7:64<=B.length:=by omega
 obtain⟨N,hN⟩: ∃N,(dY x).2.next=N:=⟨_,rfl⟩;rw[hN]at vv;have Xe: ∀i,i<gH x->(cM x 1).az[i]? =some ((N+i:Nat):Int):=fun i hi=>by
  show(Zt _ _)[i]? =_;rw[hN,ZoZ _ _ i hi]
 refine Ok.join fun eS KR=>?_
 refine Zl _ (fun c y t=>∃(k:Nat) (a:Option (Nat×Nat)) (C:List UInt8) (tn:Bool),y=[.slice 1 a C.length,.bool tn,.int .i64 (k:Int)]/\k<=extra.length/\extra.length-k<=c/\ar s8 t/\dp t a C/\C.length=B.length/\(∀i,i<N->dR C i=dR B i)/\(tn=false->C=B)) ?_ extra.length 99999 _ _ ⟨0,some (ib,0),B,false,rfl,bH _,by omega,.refl _,yI.mono K6,rfl,fun _ _=>rfl,fun _=>rfl⟩ (by omega);rintro c y t ⟨k,a,C,tn,rfl,hk,Sx,tP,hC,Dy,hCn,htn⟩ rec aD;simp only[bh,ai,al,ae];by_cases aj:k<extra.length
 ·have cg:=Yh.mono tP
  obtain⟨i1,o1,rfl⟩:=cg.ck (by simp[ints];omega);have cJ:(ints extra)[k]? =some (.int .i64 extra[k]):=Zu aj;have Ld:=hre _ (fK aj);rw[ah (show(k:Int)<(extra.length:Int) by omega),cond_true,aV,Zd (Zk aj)];simp only[aX];rw[cg.cP cJ];simp only[aM];generalize extra[k]=w at cJ Ld;obtain⟨ci,Ru⟩: ∃ci:Nat,w%((gH x:Nat):Int)=(ci:Int):=⟨(w%((gH x:Nat):Int)).toNat,by have:=Int.emod_nonneg w (show((gH x:Nat):Int)≠0 by omega);omega⟩;have UI:ci<gH x:=by
   have:=Int.emod_lt_of_pos w (show(0:Int)<((gH x:Nat):Int) by omega);omega
  rw[dq,AH (Cs h.zz 99998 w (gH x) (by omega) (by omega) Ld t),Ru];simp only[al,ae];have Vq:=La.mono (K6.trans tP);obtain⟨i2,o2,rfl⟩:=Vq.ck (by simp[ints];omega);have XA:(ints (cM x 1).az)[ci]? =some (.int .i64 ((N+ci:Nat):Int)):=by
   rw[ints,gL,Xe ci UI];rfl
  rw[aV,Zd (Zk UI)];simp only[aX];rw[Vq.cP XA];simp only[aM];rw[aV,Zd (Zk aj),cg.cP cJ];simp only[aM];have Er: -9223372036854775808<=w.tdiv 8/\w.tdiv 8<=9223372036854775807:=by
   have h1:=Ld.1;have h2:=Ld.2;rcases Int.le_total 0 w with h0|h0
   ·have:=Int.tdiv_eq_ediv_of_nonneg h0 (b:=8)
    rw[this];omega
   ·have:=Int.neg_tdiv (-w) 8
    rw[Int.neg_neg]at this;rw[this,Int.tdiv_eq_ediv_of_nonneg (by omega)];omega
  rw[Zb (x:=w.tdiv 8) Er.1 (by omega)];obtain⟨bi,Rp⟩: ∃bi:Nat,(w.tdiv 8)%((384:Nat):Int)=(bi:Int):=⟨((w.tdiv 8)%((384:Nat):Int)).toNat,by have:=Int.emod_nonneg (w.tdiv 8) (show((384:Nat):Int)≠0 by omega);omega⟩;have aa8:bi<384:=by
   have:=Int.emod_lt_of_pos (w.tdiv 8) (show(0:Int)<((384:Nat):Int) by omega);omega
  rw[show(DV.int .i64 384)=DV.int .i64 ((384:Nat):Int)from rfl,Zi (Cs h.zz 99998 (w.tdiv 8) 384 (by omega) (by omega) Er t),Rp];simp only[al,ae];rw[show((bi:Nat):Int).tdiv 8=((bi/8:Nat):Int)from rfl,show((bi:Nat):Int).tmod 8=((bi%8:Nat):Int)from rfl];have e1:af (64*((N+ci:Nat):Int))=((64*(N+ci):Nat):Int):=by rw[Zb (by omega) (by omega)];omega
  have e2:af ((bi/8:Nat):Int)=((bi/8:Nat):Int):=Zb (by omega) (by omega);have e3:af (((64*(N+ci):Nat):Int)+8)=((64*(N+ci)+8:Nat):Int):=by rw[Zb (by omega) (by omega)];omega
  have e4:af (((64*(N+ci)+8:Nat):Int)+((bi/8:Nat):Int))=((64*(N+ci)+8+bi/8:Nat):Int):=by rw[Zb (by omega) (by omega)];omega
  have e5:af (((64*(N+ci):Nat):Int).tdiv 64)=((N+ci:Nat):Int):=by
   rw[show((64*(N+ci):Nat):Int).tdiv 64=((64*(N+ci)/64:Nat):Int)from rfl,Zb (by omega) (by omega)];omega
  have e6:af (8+((bi/8:Nat):Int))=((8+bi/8:Nat):Int):=by rw[Zb (by omega) (by omega)];omega
  rw[e1,e2,e3,e4,e5,e6];obtain⟨i4,o4,rfl⟩:=hC.ck (by omega);have Bz:64*(N+ci)+8+bi/8<C.length:=by omega
  rw[aV,Zd (Zk Bz)];simp only[aX];rw[hC.cP (ba Bz)];simp only[aM];rw[Zd (ah (show(0:Int)<=((bi%8:Nat):Int) by omega)),Zw];generalize C[64*(N+ci)+8+bi/8]=cb;generalize IntKind.wrap .u8 _=cw;obtain⟨nw,eV⟩:=ZvR (cb.toNat:Int) cw;rw[eV];obtain⟨bC,Lf⟩: ∃bC:nv,bC=⟨((N+ci:Nat):Int),((8+bi/8:Nat):Int),nw,true⟩:=⟨_,rfl⟩;have hpn:ar t (t++[some ⟨false,qD [bC]⟩]):= .new _ _;have Yr:=ZpR h.q56 99999 (some (i4,o4)) C (some (t.length,0)) 4 [bC] (t++[some ⟨false,qD [bC]⟩]) (hC.mono hpn) (.inl rfl) ⟨false,qD [bC],by simp,by simp,by simp⟩ ⟨fun y hy=>by rw[bK.1 hy,Lf];simp only;omega,fun y hy=>by rw[bK.1 hy,Lf];simp only;omega⟩ (by omega) (by omega) (by simp) (by simp);have tA:([.int .i64 ((N+ci:Nat):Int),.int .i64 ((8+bi/8:Nat):Int),.int .u8 ((nw.toNat:Nat):Int),.bool true]:List DV)=qD [bC]:=by rw[Lf];rfl
  rw[tA];refine Ok.call Yr ?_;rintro _ ⟨q9,s9,rfl,Ec,hf9⟩;refine⟨_,s9,rfl,?_⟩;have Vy:(tg C [bC]).length=C.length:=Ov _ (by omega);simp only[bh,ae];rw[Zb (by omega) (by omega)];have Yq:qJ bC C.length=N+ci:=by
   unfold qJ;rw[Lf];simp only;rw[Int.emod_eq_of_lt (by omega) (by omega)];omega
  refine aD (extra.length-(k+1)) _ _ (by omega) ⟨k+1,q9,tg C [bC],true,by rw[Vy];rfl,by omega,ay _,tP.trans (hpn.trans Ec),hf9.1,by rw[Vy,Dy],fun i hi=>?_,fun e=>by cases e⟩;show dR (rS C bC) i=_;rw[Zv9 (by omega) (by rw[Yq];omega)];exact hCn i hi
 ·rw[ao (show ¬(k:Int)<(extra.length:Int) by omega),cond_false,KR]
  simp only[bh,ai,ae];obtain⟨v',w1,w2,w3⟩:=Zub hm rg.keys (epoch:=1) (B:=C) hP.ok (by omega) ((hP.fin.back (Ex.iZ _ _ _ _)).lines fun i hi=>hCn i (by omega)) (by omega);have hvv:v'.W=v.W:=I9 (by rw[w3.len,hW.len]) w3.lt hW.lt fun b=>by rw[jY,w3.iff,hW.iff]
  have Xh:rR C (cM x 1) (some (m,v.W))=rY C (cM x 1) v.W:=by
   unfold rR;rw[w1];simp only;rw[hvv,ah (show(cM x 1).blocks.toNat=m from ij)];simp
  have Vm:ar s2 t:=K6.trans tP;have Ym:eY t false i j m v.W:=by
   have:=cg.pre (gA.trans (ik.trans (yY.trans (xh.trans (Eb.trans tP)))));rw[show(cM x 1).blocks.toNat=m from ij]at this;exact this
  have hc3:=KF t Vm a C hC Dy (some (i,0)) (some (m,v.W)) ⟨false,i,j,rfl,Ym⟩;refine Ok.call hc3 ?_;rintro _ ⟨s9,rfl,Ec⟩;refine⟨_,s9,rfl,?_⟩;rw[Xh];simp only[ai,ae];have hC9:=hC.mono Ec;have QT: ∀K:List DV->M (List DV),M.rd a C.length K s9=K (bj C) s9:=fun K=>by
   have:=qg (show Sl _ a (bj C)from hC9) K
   rwa [Zr]at this
  rw[QT,<-rX,z7];refine Ok.call (Vr s9 (Vm.trans Ec) C Dy (eI v.W) pl (Vx.mono (ik.trans (yY.trans (xh.trans (Eb.trans (tP.trans Ec)))))) (NO _) (by omega) (fun k hk=>?_) (by omega)) ?_
  ·obtain⟨b,rfl,hb⟩:=qC.1 hk
   have:=(hW.iff b).1 hb;omega
  rintro _ ⟨b,EX,rfl,abq,pN⟩;refine⟨_,EX,rfl,?_⟩;have fZ:b=rY C (cM x 1) v.W:=by
   rw[jY,pN];exact(ZwG hP.ok (by rw[hlw,<-ij];rfl) hW.lt (fun b hb=>by have:=(hW.iff b).1 hb;show b<x.blocks.toNat;omega) (show x.blocks<=_ by omega)).symm
  subst fZ;simp only[ai,ae];rw[Zc,gN,cond_true,Zc];cases tn with
  |true=>
   rw[cond_true];simp only[ai,ae,Ze];exact .mk ⟨_,rfl⟩
  |false=>
   have hCB:=htn rfl;subst hCB;rw[cond_false,UH];simp only[ai,ae,Ze];exact .mk ⟨_,rfl⟩
end Go.Gv.F
