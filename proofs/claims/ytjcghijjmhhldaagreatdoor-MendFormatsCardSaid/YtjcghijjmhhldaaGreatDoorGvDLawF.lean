/- The law of making a yard over any octets, wherever the power goes. -/
import Derived.Test.YtjcghijjmhhldaaGreatDoorGvZDb
import Derived.Test.YtjcghijjmhhldaaGreatDoorGvMLawO
set_option linter.all false
namespace Go.Gv.F
set_option maxHeartbeats 4000000
open Go.Gv
theorem ZpQ: ∃x v,gf.2=0/\gf.1.off=false/\Zy (df (gf.1.cs.map aU.s)) 128=gf.1.cs.map aU.s/\ng (df (gf.1.cs.map aU.s)) 2=0/\la (df (gf.1.cs.map aU.s)) 1=none/\zO (df (gf.1.cs.map aU.s))=some x/\mJ (pq (df (gf.1.cs.map aU.s)) x)=some (some v)/\A9 (df (gf.1.cs.map aU.s)) x v.W=true/\
  yw ((iD (nH x.blocks.toNat x.bg)).foldl (ej x.blocks.toNat) v.W)=3/\yw (nH x.blocks.toNat [])=0/\x.seq=1/\(0<x.blocks/\x.blocks<=3072)/\x.bg.length<1000:=by
 have h:=Zq9;unfold Ra at h;cases hc:(gf.2==0&& !gf.1.off&&decide (Zy (df (gf.1.cs.map aU.s)) 128=gf.1.cs.map aU.s)&&decide (ng (df (gf.1.cs.map aU.s)) 2=0)&&(la (df (gf.1.cs.map aU.s)) 1).isNone)with
 |false=>rw[hc]at h;cases h
 |true=>
  rw[hc,aa]at h;rw[aZ,aZ,aZ,aZ,beq_iff_eq,bD,bD,Option.isNone_iff_eq_none,nN]at hc;obtain⟨⟨⟨⟨c1,c2⟩,c3⟩,c4⟩,c5⟩:=hc;cases hp:zO (df (gf.1.cs.map aU.s))with
  |none=>rw[hp]at h;cases h
  |some x=>
   rw[hp]at h;dsimp only at h;cases hw:mJ (pq (df (gf.1.cs.map aU.s)) x)with
   |none=>rw[hw]at h;cases h
   |some w=>
    cases w with
    |none=>rw[hw]at h;cases h
    |some v=>
     rw[hw]at h;dsimp only at h;rw[aZ,aZ,aZ,aZ,aZ,bD,bD,bD,bD,bD]at h;obtain⟨⟨⟨⟨⟨d1,d2⟩,d3⟩,d4⟩,d5⟩,d6⟩:=h;exact⟨x,v,c1,c2,c3,c4,c5,rfl,hw,d1,d2,d3,d4,d5,d6⟩
theorem Fk.GX {T:al} {a b c:St} (h:ax a b) (k:Fk T b c) (hT: ∀x∈T,a.length<=x):ax a c:=
 Fx.GX ((Fx.pre [] h).step k.1 λx hx=> .inr (hT x hx))
variable {Bd:Ze} [h:HA Bd]
theorem Zij (hz:uq Bd) (n:Nat) (hn:70000<=n) (st:St) (ht:kL st):Ok (λo=>∃s',o=(.val [.bool true],s')/\ax st s') (run Bd n 352 [] st):=by
 obtain⟨n,rfl⟩: ∃m,n=m+2:=⟨n-2,AC⟩;have⟨x,v,c1,c2,c3,c4,c5,c6,c7,c8,c9,c10,MB,c12,c13⟩:=ZpQ;have⟨s1,gu,bj,qj⟩:=ZpN n 16 st EQ;have cD:(mg (List.replicate (16*8) c0)).W:=Zsi (by rw[qO];decide);rw[Zb,h.TO];unfold IV gy aB DB aX Li Lb Lp A7
 try dsimp only
 rw[ao,show(16:Int)=((16:Nat):Int)from rfl,Zj gu,bF,ar,ao];refine Ok.join λav e1=>?_
 rw[pF,ae];have hf:=Zix hz (n+1) 16 4 2 s1 (ht.mono bj) qj cD (by show(List.replicate (16*8) c0).length+8000<=_;rw[qO];omega);rw[show(mg (List.replicate (16*8) c0)).fmt 16 4 2=gf from rfl]at hf;refine Ok.call hf ?_;rintro _ ⟨s2,rfl,k2,iS,fR,qm⟩;refine⟨_,s2,rfl,?_⟩;have hlen:gf.1.cs.length=128:=by rw[qm];exact qO
 have bC:ax st s2:=k2.GX bj Do;rw[ar,ao,c1,e1,show(!((0:Int)==0))=false from rfl];dsimp only;rw[aA,ao,ae];have dY:(df (gf.1.cs.map aU.s)).length=1024:=by rw[ye,dE,hlen]
 have aQ:=Zkf hz (n+1) (df (gf.1.cs.map aU.s)) s2 (ht.mono bC) iS fR c2 rfl (by rw[dY];exact c3) AC c4 c6 c5 c7 c8 c12 c13 AC;refine Ok.call aQ ?_;rintro _ ⟨q,i,j,i2,j2,s3,rfl,eC,bN,nx⟩;refine⟨_,s3,rfl,?_⟩;rw[pZ];simp only[ar,bd,bF,ao];rw[Zi,show((0:Int)==0)=true from rfl,aa];dsimp only;rw[aA,ao,pF,Zi,cy,aa];dsimp only;rw[aA,ao,pF,Zi,cy,aa];refine Ok.call (Zjk (n+1) s3 bN) ?_;rintro _ rfl;refine⟨_,s3,rfl,?_⟩;rw[ar,ao,c9,show((3:Int)==3)=true from rfl];dsimp only;rw[aA,ao,Zi,aa];refine Ok.call (Zjk (n+1) s3 nx) ?_;rintro _ rfl;refine⟨_,s3,rfl,?_⟩;rw[ar,ao,c10,MB,show((0:Int)==0)=true from rfl,show((1:Int)==1)=true from rfl];dsimp only;rw[aA,ao,Zi,aa];dsimp only;rw[aA,ao,Zi,aa];dsimp only;rw[aA,ao,Zh];exact .mk ⟨s3,rfl,bC.trans eC⟩
theorem Zm4 (n:Nat) (c:Int) (l1 l2 z1 z2:Nat) (p1 p2:ah) (h1:z1=1\/p1=none) (h2:z2=1\/p2=none) (st:St):run Bd (n+1) 361 [.agg [.u c,.slice z1 p1 l1,.slice z2 p2 l2]] st=some (.val [.bool (decide (l1<=40)&&decide (l2<=40))],st):=by
 rw[Zb,h.TX];unfold IK bG aB Lb;simp only[cU,ar,Zr 1 z1 p1 _ h1,Zr 1 z2 p2 _ h2,ao,Zi,aA];by_cases e:l1<=40
 .rw[aI (AC:(l1:Int)<=40),aa,aI e,Zh,ez]
  rw[show decide ((l2:Int)<=40)=decide (l2<=40)from decide_eq_decide.2 AC]
 .rw[aK (AC:¬(l1:Int)<=40),ae,aK e,Zh]
  rfl
def Px:Ty:= .pr (.i .i64) (.pr (.i .i64) (.pr (.i .i64) .un))
def Pp:Ty:= .pr (.i .u8) (.pr (.sl (.i .i64)) (.pr (.sl (.i .i64)) .un))
variable {s:St}
theorem Zt8 {cs:af} (h:Rd s Px cs): ∃g g1 g2:Int,cs=[.i g,.i g1,.i g2]:=by
 obtain⟨_,_,rfl,⟨a,rfl,_,_⟩,⟨_,_,rfl,⟨b,rfl,_,_⟩,⟨_,_,rfl,⟨c,rfl,_,_⟩,hu⟩⟩⟩:=h;cases hu;exact⟨a,b,c,rfl⟩
theorem Zue {cs:af} (h:Rd s Pp cs): ∃(c:Int) (l1 l2:ak) (z1 z2:Nat) (p1 p2:ah),cs=[.u c,.slice z1 p1 l1.length,.slice z2 p2 l2.length]/\(0<=c/\c<=255)/\(z1=1\/p1=none)/\(z2=1\/p2=none)/\Sl s p1 (ints l1)/\Sl s p2 (ints l2):=by
 obtain⟨_,_,rfl,⟨a,rfl,a1,a2⟩,⟨x,_,rfl,hx,⟨y,_,rfl,hy,hu⟩⟩⟩:=h;cases hu;obtain⟨d1,rfl⟩:=List.length_eq_one_iff.1 (Rd.len hx);obtain⟨d2,rfl⟩:=List.length_eq_one_iff.1 (Rd.len hy);obtain⟨p1,l1,⟨z1,iV,rfl⟩,ib,_⟩:=Zqr hx;obtain⟨p2,l2,⟨z2,mD,rfl⟩,j3,_⟩:=Zqr hy;exact⟨a,l1,l2,z1,z2,p1,p2,rfl,⟨a1,a2⟩,iV,mD,ib,j3⟩
theorem law_law28_MendFormats {Bd:Ze} (h:HA Bd) (s:St) (args:af) (jV:Frz s) (ht:kL s) (hr:Dq s [(false,.sl (.i .u8)),(true,Px),(true,Pp)] args): ∃n s',run Bd n 351 args s=some (.val [.bool true],s'):=by
 have hz:=Q6;obtain⟨_,d,_,hx,j1,rfl,hd⟩:=hr;obtain⟨_,e,_,hy,Cm,rfl,he⟩:=j1;obtain⟨_,f,_,nA,Cn,rfl,hf⟩:=Cm;cases Cn;have hd:_=[d]:=hd;subst hd;obtain⟨a,l,rfl,nl⟩:=ZsP hx;obtain⟨g,g1,g2,rfl⟩:=Zt8 hy;have he:e= .agg [.i g,.i g1,.i g2]:=he;subst he;obtain⟨c1,l1,l2,z1,z2,p1,p2,rfl,fW,iV,mD,ib,j3⟩:=Zue nA;have hf:f= .agg [.u c1,.slice z1 p1 l1.length,.slice z2 p2 l2.length]:=hf;subst hf;have fY:Fz s p1 (ints l1):=ib.fz jV;refine Zty (n:=100000) ?_;rw[Zb,h.TN];unfold Hw oH bG bA aB iH Q_ C_ nR aX Lb bh jM A7 pH cP;simp only[pZ,ar,bd,Zr 1 z1 p1 _ iV,Zr 1 z2 p2 _ mD,ao];refine Ok.cv (Zij hz 99999 AC s ht) λs1 bj=>?_
 have Gm:=ht.mono bj;have Q9:Ok (λo:Out af×St=>∃s',o=(.val [DV.bool true],s')) (cK (run Bd 99999 352 []) (λds=>ko ds λx7 ds=>aL ds (au [DV.bool x7])) s1):=by
  refine Ok.cv (Zij hz 99999 AC s1 Gm) λs3 eC=>?_
  rw[aA,ao,Zh];exact .mk ⟨s3,rfl⟩
 rw[aA,ao,Zi,bU,ae];dsimp only;rw[aA,ao,Zi];by_cases PE:(l.length:Int)>6000
 .rw[aI PE,aa]
  dsimp only;rw[aA,ao,aa];exact Q9
 rw[aK PE,ae];have jD:=Zm4 99998 c1 l1.length l2.length 1 1 p1 p2 (.inl rfl) (.inl rfl) s1;rw[Zj jD,aA,ao];dsimp only;rw[aA,ao];cases hq:decide (l1.length<=40)&&decide (l2.length<=40)with
 |false=>
  rw[cy,aa];exact Q9
 |true=>
 rw[aZ,bD,bD]at hq;rw[bU,ae];have hl6:l.length<=6000:=AC
 refine Ok.call (Zom 99999 a l s1 (cC.mono bj nl) AC AC) ?_;rintro _ ⟨d,b,s2,rfl,bC,rI,wx,hZ,tt⟩;refine⟨_,s2,rfl,?_⟩;have⟨W,hW⟩: ∃W,Zy l (8*(l.length/64))=W:=⟨_,rfl⟩;have qg:W.length<=750:=by rw[<-hW,Z1];omega
 have iy:=tt.lt;rw[hW]at tt;rw[bF,ao];refine Ok.call (ZnZ 99999 s2.length a l s2 (cC.mono (bj.trans bC) nl) AC AC) ?_;rintro _ ⟨s3,rfl,eC,NT⟩;refine⟨_,s3,rfl,?_⟩;rw[hW]at NT;rw[bF,ao,pF,ae];have PO:=tt.pre eC;have wS:(mg (W.map lG)).W:=Zsi (by rw[dE];omega);have oj: ∀x∈[d,b],x∉RB s2.length:=λx hx hm=>by simp[RB]at hx hm;omega
 have rH: ∀x∈RB s2.length,x∉[d,b]:=λx hx hm=>oj x hm hx
 refine Ok.join λbp e3=>?_
 have A: ∀(V:ay) (s4:St),V.W->V.steps=0->V.cs.length=W.length->Kp s s4->cQ s4 d b V->dS s4 s2.length s2.length V->s2.length<=s4.length->Ok (λo=>∃s',o=(.val [.bool true],s')) (bp [] s4):=by
  intro V s4 hw bx eu k4 BN Cn hl4;rw[e3];dsimp only;rw[ao];have FR:=fY.kp k4;refine Ok.cv (Zmr 99997 l1 p1 s4 BN FR.1 AC) λs5 ⟨k5,M8⟩=>?_
  have NR:=Cn.fx k5 rH (by simp;omega);have ha5:=FR.kp k5.2;rw[ao];have⟨q6,s6,hr6,k6,hq6,VL⟩:=ZoQ 99998 l1 p1 s5 NR hw ha5.1 AC;have W8:=k5.1.1;have hd6:=M8.fx k6 (oj d Do) (oj b Do);rw[Zj hr6,ao];have hw6:=hw.zJ (l:=l1) AC;have ht6:kL s6:=ht.kp ((k4.trans k5.2).trans k6.2);refine Ok.Pl (Zix hz 99999 g g1 g2 s6 ht6 hd6 hw6 (by show V.cs.length+8000<=_;omega)) ?_;rintro _ ⟨s7,rfl,k7,hd7,hw7,hl7⟩;refine⟨_,s7,rfl,?_⟩;have hr7:=VL.fx k7 rH (by simp;omega);rw[ar,ao];refine Ok.call (Zlv 99999 (k:=200) g g1 g2 s7 hr7 hw6 (by show V.steps+100<=200;omega) EQ (by show V.cs.length+8000<=_;omega)) ?_;rintro _ ⟨s8,rfl,k8,hr8,Cv,Ny,_⟩;refine⟨_,s8,rfl,?_⟩;have hd8:=hd7.fx k8 (oj d Do) (oj b Do);rw[ar,ao,Zi,Ad,aa];refine Ok.cv (Znd 99999 s8 hd8 hr8 Cv (by rw[Ny];show V.cs.length+100<=_;omega)) λs9 hp9=>?_
  rw[aA,ao];dsimp only;rw[aA,ao,Zh];exact .mk ⟨s9,rfl⟩
 have hk3:Kp s s3:=((bj.trans bC).trans eC).kp;have u2:=eC.len;by_cases hc:c1>0
 .rw[aI hc,aa,Zc (x:=c1),Zc]
  have⟨s4,Cn,k4,BN⟩:=ZnQ 99998 (c1-1) s3 PO;rw[Zj Cn,ao];have VJ:=NT.fx k4 rH (by simp;omega);have⟨s5,NR,k5,VK⟩:=Zpm 99998 (c1-1) s4 VJ wS;rw[Zj NR,ao];have M8:=BN.fx k5 (oj d Do) (oj b Do);have h1:=k4.1.1;have h2:=k5.1.1;exact A _ s5 (wS.arm AC) rfl (by show(W.map lG).length=_;rw[dE]) ((hk3.trans k4.2).trans k5.2) M8 VK AC
 .rw[aK hc,ae]
  exact A _ s3 wS rfl (by show(W.map lG).length=_;rw[dE]) hk3 PO NT u2
end Go.Gv.F
