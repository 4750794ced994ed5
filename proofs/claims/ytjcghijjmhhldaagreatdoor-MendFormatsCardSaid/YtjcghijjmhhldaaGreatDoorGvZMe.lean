/- The document's maker of images: its blocks, one behind the other. -/
import Derived.Test.YtjcghijjmhhldaaGreatDoorGvZMd
set_option linter.all false
namespace Go.Gv.F
open Go.Gv
variable {β:Type}
structure MkV where
 B:aj
 next:Nat
 At:ak
theorem xH (cs r:af) (K:af->af->M β):bW (.agg cs::r) K=K cs r:=rfl
def CZ (x:db):aj:=cI (dX x.seq) 8++cI (dX x.blocks) 4++cI (dX x.ef) 4++cI (dX x.g) 4++cI (dX x.used) 4++cI (dX x.free) 4++cI (dX x.de) 2++cI (dX x.dir) 2++tO x.bg
def oI (x:db):aj:=sd 7 x.bg.length (CZ x)
variable {Bd:Ze} [h:HA Bd]
theorem ZoD (n:Nat) (x:db) (p:ah) (st:St) (hs:Sl st p (ints x.bg)) (hl:x.bg.length<1000) (hn:2600<=n):
  Ok (λo=>∃s',o=(.val [.str (oI x)],s')/\ax st s') (run Bd n 191 [.agg (cN x p)] st):=by
 obtain⟨n,rfl⟩: ∃k,n=k+2:=⟨n-2,AC⟩;rw[Zb,h.Sb];unfold JW ZQ mR sH bQ Zw ZD Ls uk cN
 try dsimp only
 rw[cU];simp only[ar,bd,ao,Ec];have lay:=λv k (hk:k<=20) s=>Zkn (n+1) (dX v) k (Zqz v) s
 refine Ok.cx (lay x.seq 8 AC st) λs1 bj=>?_
 rw[fL,ao];refine Ok.cx (lay x.blocks 4 AC s1) λs2 bC=>?_
 rw[fL,ao,pS (by simp[ZH])];refine Ok.cx (lay x.ef 4 AC s2) λs3 eC=>?_
 rw[fL,ao,pS (by simp[cq,ZH])];refine Ok.cx (lay x.g 4 AC s3) λs4 fI=>?_
 rw[fL,ao,pS (by simp[cq,ZH])];refine Ok.cx (lay x.used 4 AC s4) λs5 iA=>?_
 rw[fL,ao,pS (by simp[cq,ZH])];refine Ok.cn (lay x.free 4 AC s5) λs6 u4=>?_
 rw[fL,ao,pS (by simp[cq,ZH])];refine Ok.cx (lay x.de 2 AC s6) λs7 tH=>?_
 rw[fL,ao,pS (by simp[cq,ZH])];refine Ok.cn (lay x.dir 2 AC s7) λs8 hp8=>?_
 rw[fL,ao,pS (by simp[cq,ZH]),Zi];have hP:=((((((bj.trans bC).trans eC).trans fI).trans iA).trans u4).trans tH).trans hp8;unfold oI CZ;have⟨A,hA⟩: ∃A,cI (dX x.seq) 8++cI (dX x.blocks) 4++cI (dX x.ef) 4++cI (dX x.g) 4++cI (dX x.used) 4++cI (dX x.free) 4++cI (dX x.de) 2++cI (dX x.dir) 2=A:=⟨_,rfl⟩;have MR:A.length=32:=by rw[<-hA];simp only[cq,ZH]
 rw[hA];refine Zn _ (λq y s=>∃i:Nat,y=[.str (A++tO (x.bg.take i)),.i (i:Int)]/\i<=x.bg.length/\x.bg.length-i<=q/\ax st s) ?_ x.bg.length (n+1) _ _ ⟨0,by rw[List.take_zero];show _=[DV.str (A++[]),_];rw[gE];rfl,eB _,AC,hP⟩ AC;rintro q _ s ⟨i,rfl,hi,hq,qw⟩ rec aQ;rw[fL,ar,ao];by_cases aw:i<x.bg.length
 .have eD:=hs.mono qw
  obtain⟨i1,o1,rfl⟩:=eD.dP (by simp[ints];omega);rw[aI (AC:(i:Int)<(x.bg.length:Int)),aa,aD,Zg (Zo aw),bw,eD.fj (ZN aw),bm];refine Ok.cv (lay x.bg[i] 2 AC s) λs5 iA=>?_
  rw[fL,ao,pS (by rw[cq,Eh,ZH,dh,MR];omega),Zc];exact aQ (x.bg.length-(i+1)) _ _ AC ⟨i+1,by rw[ZqZ _ aw,gX];rfl,AC,aW _,qw.trans iA⟩
 .rw[aK (AC:¬(i:Int)<(x.bg.length:Int)),ae]
  rw[dJ AC];refine Ok.cv (Zjl (n+1) 7 x.bg.length (A++tO x.bg) (by rw[cq,Eh];omega) s (by rw[cq,Eh];omega)) λs5 iA=>?_
  rw[fL,ao,Zh];exact .mk ⟨s5,rfl,qw.trans iA⟩
def ZB (a n:Nat):ak:=(List.range n).map λi=>((a+i:Nat):Int)
theorem Z9 (a n:Nat):(ZB a n).length=n:=by unfold ZB;simp
theorem JT (a n:Nat):ZB a (n+1)=ZB a n++[((a+n:Nat):Int)]:=by simp[ZB,lN,fb]
variable {f g:Bool} {i i2 j j2 m m2 n:Nat}
theorem Kz {a:Nat} {x:Int} (h:x∈ZB a n):(a:Int)<=x/\x<((a+n:Nat):Int):=by
 grind[ZB]
theorem Zna (n:Nat) (W:al) (j:Nat) (f:Bool) (st:St) (hw:st[j]? =some (some ⟨f,Zm W⟩)) (h0:0<W.length) (hl:W.length<100000):
  Ok (λo=>∃j' s',o=(.val [.slice 1 (some (j',0)) W.length],s')/\ax st s'/\st.length<=j'/\s'[j']? =some (some ⟨false,Zm W⟩)) (run Bd (n+1) 263 [.slice 1 (some (j,0)) W.length] st):=by
 rw[Zb,h.S8];unfold Hj bG bh
 try dsimp only
 rw[bd,ao,show(some (j,0):ah).isNone=false from rfl,ae,Zv];have cD:(st++[some (⟨false,[]⟩:aH)])[j]? =some (some ⟨f,Zm W⟩):=(ax.new _ _).get hw;have eD:Sl (st++[some (⟨false,[]⟩:aH)]) (some (j,0)) (Zm W):=⟨f,Zm W,cD,AC,by rw[eG,lO]⟩;have dG:=kA (β:=af) eD;rw[Z8]at dG;rw[cL,dG];have Cf:bn st (st++[some (⟨false,[]⟩:aH)]) (some (st.length,0)) []:=⟨ax.new _ _,Do⟩;have⟨p,s',ho,he⟩:=Cf.app (β:=af) (sz:=1) (n:=0) (m:=W.length) (lim:=8796093022208) (ds:=Zm W) AC rfl h0 AC;rw[he,Zh,ei];rw[mN]at ho;rcases ho.2 with⟨_,e⟩|⟨i,rfl,h1,h2⟩
 .have:=congrArg List.length e
  rw[Z8]at this;grind
 .exact .mk ⟨i,s',rfl,ho.1,h1,h2⟩
theorem ZnR (n:Nat) {W:al} (st:St) (hs:dT st f i j m W) (hm:0<m):
  Ok (λo=>∃i' j' s',o=(.val [.ptr (some (i',0))],s')/\ax st s'/\st.length<=i'/\st.length<=j'/\i'≠j'/\dT s' false i' j' m W) (run Bd (n+2) 241 [.ptr (some (i,0))] st):=by
 rw[Zb,h.SO];unfold Ip ck Zl vD bh lu Lp;simp only[bF,ao,aD];have hlen:=hs.len;have hle:=hs.le;rw[Zf hs.hd rfl,bm,Zf hs.hd rfl,eH];refine Ok.wm (Zna n W j f st hs.wd AC AC) ?_;rintro _ ⟨j',s1,rfl,bj,hj,hw⟩;refine⟨_,s1,rfl,bj,?_⟩;rw[bd,ao,Zv,Zh];have BW:=(cF.1 hw).1;exact .mk ⟨s1.length,j',_,rfl,bj.trans (ax.new _ _),bj.len,hj,AC,⟨Do,(ax.new _ _).get hw,hs.len,hs.lt,hs.le⟩⟩
theorem ZjV (hz:uq Bd) (n:Nat) {W V:al} (st:St) (ht:kL st) (hs:dT st f i j m W) (j3:dT st g i2 j2 m2 V) (hm:0<m:=by omega) (hn:4000<=n:=by omega):
  Ok (λo=>∃i' j' s',o=(.val [.ptr (some (i',0))],s')/\ax st s'/\dT s' false i' j' m ((iD V).foldl (ej m) W)) (run Bd n 201 [.ptr (some (i,0)),.ptr (some (i2,0))] st):=by
 obtain⟨n,rfl⟩: ∃k,n=k+3:=⟨n-3,AC⟩;rw[Zb,h.Si];unfold If ck iH dZ C_ Lp jM;simp only[bF,ao];refine Ok.call (ZnR n st hs hm) ?_;rintro _ ⟨i',j',s1,rfl,bj,Nn,zf,ky,Gk⟩;refine⟨_,s1,rfl,?_⟩;rw[bF,ao];refine Ok.call (Zkg hz (n+2) s1 (ht.mono bj) (j3.pre bj)) ?_;rintro _ ⟨p,s2,rfl,bC,eD,gr⟩;refine⟨_,s2,rfl,?_⟩;rw[bd,ao];have nx:=Gk.pre bC;have BW:j'<s1.length:=(cF.1 Gk.wd).1;have iL:=IF V V.length;rw[lO]at iL;have hV:=j3.len;have hV2:=j3.le;rw[Zj (Aq (n+2) (iD V) p s2 nx ky eD (dF.aC λb hb B4=>by
  have:=gr b hb;rw[cA.1 B4]at this;omega))]
 rw[ao,Zh];exact .mk ⟨i',j',_,rfl,kP (bj.trans bC) zf _,nx.add ky _ (by rw[(qW m _ _).1]) ((qW m _ _).2 nx.lt)⟩
def yV (aM:aj) (m:Nat) (W:al):ak->Option (List ZJ)
 |[]=>some []
 |k::r=>match Ey (mY aM k.toNat)with
  |none=>none
  |some c=>bif iY m k&&ey W k.toNat then none else(yV aM m W r).map (c:: ·)
def A9 (aM:aj) (x:db) (W:al):Bool:=match yV aM x.blocks.toNat W x.bg with
 |none=>false
 |some cs=>match BC x.blocks.toNat cs with
  |none=>false
  |some F=>decide (F=(iD (nH x.blocks.toNat x.bg)).foldl (ej x.blocks.toNat) W)
def AN (aM:aj) (x:db) (rm:Option (Nat×al)):Bool:=match mJ (pq aM x)with
 |some (some v)=>(match rm with
  |none=>false
  |some (m,R)=>(decide (x.blocks.toNat=m)&&decide (v.W=R))&&A9 aM x v.W)
 |_=>false
def ZtU (s:St) (rm:Option (Nat×al)) (p:ah):Prop:=match rm with
 |none=>p=none
 |some (m,R)=>∃f i j,p=some (i,0)/\dT s f i j m R
theorem Zsy {aM:aj} {x:db} {v:bu} (h:mJ (pq aM x)=some (some v)):lV x=true/\x.blocks<=((aM.length/64:Nat):Int):=by
 unfold mJ at h;cases h1:lV x with
 |false=>
  have:(pq aM x).sup=x:=rfl;rw[this,h1]at h;cases h
 |true=>
  refine⟨rfl,?_⟩;cases h2:decide (x.blocks<=((aM.length/64:Nat):Int))with
  |true=>grind
  |false=>
   have e1:(pq aM x).sup=x:=rfl;have e2:(pq aM x).aM=aM:=rfl;rw[e1,e2,h1,h2]at h;cases h
theorem Zlp (n:Nat) (a:ah) (aM:aj) (x:db) (pc:ah) (rm:Option (Nat×al)) (pr:ah) (s:St) (ht:kL s) (ha:cC s a aM) (hc:Sl s pc (ints x.bg)) (hr:ZtU s rm pr) (hl:aM.length<1000000) (eu:x.bg.length<1000) (hn:6000<=n):
  Ok (λo=>∃s',o=(.val [.bool (AN aM x rm)],s')/\ax s s') (run Bd n 173 [.slice 1 a aM.length,.agg (cN x pc),.ptr pr] s):=by
 obtain⟨n,rfl⟩: ∃k,n=k+3:=⟨n-3,AC⟩;have⟨R,hR⟩: ∃R,AN aM x rm=R:=⟨_,rfl⟩;rw[hR];unfold AN at hR;rw[Zb,h.R8];unfold IY ZA ck xM aB jK iH bA bQ Zw dZ xO Lb lu pH gj bh cP lT
 try dsimp only
 rw[bd,xH (cN x pc) [.ptr pr]];unfold cN;simp only[ar,bd,bF,ao];have zz:([.i x.seq,.i x.blocks,.i x.ef,.i x.g,.i x.de,.i x.used,.i x.free,.i x.dir,.slice 1 pc x.bg.length]:af)=cN x pc:=rfl;rw[zz];have u6: ∀t,ax s t->R=false->Ok (λo=>∃s',o=(.val [.bool R],s')/\ax s s') ((au [.bool false]:M af) t):=λt k e=>by
  rw[e,Zh];exact .mk ⟨t,rfl,k⟩
 refine Ok.call (Zjw (n+2) a aM x pc s ha hc hl eu) ?_;intro o ho;cases hw:mJ (pq aM x)with
 |none=>
  rw[hw]at ho hR;obtain⟨s1,rfl,bj⟩:=ho;refine⟨_,s1,rfl,?_⟩;rw[xH];unfold jH;simp only[ar,Zr 2 0 none _ (.inr rfl),Zr 1 0 none _ (.inr rfl),bF,ao];rw[Zi,show(!((2:Int)==0))=true from rfl,aa];simp only[aA,ao];rw[Zi,aa];simp only[aA,ao];rw[aa];exact u6 s1 bj hR.symm
 |some q=>
 cases q with
 |none=>
  rw[hw]at ho hR;obtain⟨s1,rfl,bj⟩:=ho;refine⟨_,s1,rfl,?_⟩;rw[xH];unfold jH;simp only[ar,Zr 2 0 none _ (.inr rfl),Zr 1 0 none _ (.inr rfl),bF,ao];rw[Zi,show(!((31:Int)==0))=true from rfl,aa];simp only[aA,ao];rw[Zi,aa];simp only[aA,ao];rw[aa];exact u6 s1 bj hR.symm
 |some v=>
 rw[hw]at ho hR;obtain⟨s1,z2,q2,z3,q3,z4,q4,i,j,rfl,bj,mD,Cy,Cz,_,bN,_,_⟩:=ho;refine⟨_,s1,rfl,?_⟩;simp only at hR;have⟨tJ,UX⟩:=Zsy hw;have⟨Nk,_⟩:=Zjz tJ;have⟨g1,g2,_⟩:=uu Nk;have VV:=(Zlx x).1 tJ;have⟨m,hm⟩: ∃m:Nat,x.blocks=m:=Fd
 have hmn:x.blocks.toNat=m:=AC
 rw[hmn]at bN hR;rw[xH];unfold jH;simp only[ar,Zr 2 z2 q2 _ mD,Zr 1 z3 q3 _ Cy,Zr 1 z4 q4 _ Cz,bF,ao];rw[Zi,show(!((0:Int)==0))=false from rfl,ae];simp only[aA,ao];rw[Zi];cases rm with
 |none=>
  have wO:pr=none:=hr;subst wO;rw[show(none:ah).isNone=true from rfl,aa];simp only[aA,ao];rw[aa];grind
 |some mr=>
 have⟨mr,Rr⟩:=mr;obtain⟨fr,ir,jr,rfl,Cr⟩:=hr;rw[show(some (ir,0):ah).isNone=false from rfl,ae];refine Ok.call (Zkc (n+2) s1 bN (Cr.pre bj)) ?_;rintro _ rfl;refine⟨_,s1,rfl,?_⟩;simp only[aA,ao];simp only at hR;cases Qr:(decide (m=mr)&&decide (v.W=Rr))with
 |false=>
  rw[Qr,gN]at hR;rw[cy,aa];exact u6 s1 bj hR.symm
 |true=>
 rw[Qr,ez]at hR;rw[bU,ae];unfold A9 at hR;rw[hmn]at hR;refine Ok.join λbp hj3=>?_
 have⟨G,hG⟩: ∃G,yV aM m v.W x.bg=G:=⟨_,rfl⟩;rw[hG]at hR;refine Zn _ (λq y t=>∃(k z:Nat) (c:ah) (acc:List ZJ),y=[.slice z c acc.length,.i (k:Int)]/\(z=49\/c=none)/\k<=x.bg.length/\x.bg.length-k<=q/\bn s1 t c (Z0 acc)/\acc.length=k/\(∀y∈acc,y.cE.length=48/\y.no<8)/\(yV aM m v.W (x.bg.drop k)).map (acc++ ·)=G) ?_ x.bg.length (n+2) _ _ ⟨0,0,none,[],rfl,.inr rfl,eB _,AC,bn.nil (.refl _),rfl,(λ_ h=>by cases h),by rw[eG,hG];cases G<;>rfl⟩ AC;rintro q _ t ⟨k,z,c,acc,rfl,hz,hk,hq,ho,tq,PB,aO⟩ rec aQ;have NQ:=ho.1;have bx:=bj.trans NQ;simp only[ar,Zr 49 z c _ hz,ao];have hct:=hc.mono bx;have oS:=ha.mono bx;by_cases aw:k<x.bg.length
 .obtain⟨bi,bo,rfl⟩:=hc.dP (by simp[ints];omega)
  have iT:(ints x.bg)[k]? =some (.i x.bg[k]):=ZN aw;have jU:x.bg.drop k=x.bg[k]::x.bg.drop (k+1):=il aw;have qh:=(VV.ch k aw).1;rw[gF,dt aw,ZsR,hm]at qh;have UZ:2<=x.bg[k]/\x.bg[k]<(m:Int):=qh;rw[jU]at aO;rw[aI (AC:(k:Int)<(x.bg.length:Int)),aa,aD,Zg (Zo aw),bw,hct.fj iT,bm];generalize x.bg[k]=y at UZ aO;have⟨yn,hyn⟩: ∃yn:Nat,y=yn:=⟨y.toNat,AC⟩;subst hyn;unfold yV at aO;rw[bw]at aO;rw[Zj (ZjA (n+1) a aM.length yn t hl),bd,ao];have NC:(mY aM yn).length=64:=by unfold mY;rw[dh,ft];omega
  have hlb:cC t (cR true a (yn*64)) (mY aM yn):=(oS.cR (k:=yn*64) AC).js 64;have hcg:=Zoy (n+2) (cR true a (yn*64)) (mY aM yn) t hlb AC AC;rw[NC]at hcg;refine Ok.call hcg ?_;rintro _ ⟨t1,bC,dA⟩;have cD:aq ((k:Int)+1)=((k+1:Nat):Int):=Zc;cases rL:Ey (mY aM yn)with
  |none=>
   rw[rL]at dA aO;simp only at dA aO;subst dA;refine⟨_,t1,rfl,?_⟩;have Vt:(aN EY.cE).length=48:=rfl;rw[xH (Zz EY) _];unfold Zz;rw[ar,bV Vt,aA,ao,bV (n:=49) rfl,Zi,cy,aa];simp only[aA,ao];rw[aa];have MV:G=none:=aO.symm;rw[MV]at hR;exact u6 t1 (bx.trans bC) hR.symm
  |some cv=>
   rw[rL]at dA aO;simp only at dA aO;obtain⟨rfl,yW,h8⟩:=dA;refine⟨_,t1,rfl,?_⟩;have dY:(aN cv.cE).length=48:=by rw[Zp,yW]
   rw[xH (Zz cv) _];have hcc:Zz cv= .i cv.no::aN cv.cE:=rfl;rw[hcc,ar,bV dY,aA,ao,bV (n:=49) (by simp[dY]),Zi,bU,ae,Zj (JP n (yn:Int) t1 (bN.pre (NQ.trans bC)))];simp only[aA,ao];rw[bw];cases wH:(iY m (yn:Int)&&ey v.W yn)with
   |true=>
    rw[wH,aa]at aO;rw[aa];have MV:G=none:=aO.symm;rw[MV]at hR;exact u6 t1 (bx.trans bC) hR.symm
   |false=>
    rw[wH,ae]at aO;rw[ae,bV (n:=49) (by simp[dY]),<-hcc,cD];have⟨p3,t3,om,zh,he⟩:=(ho.mono bC).CQ (β:=af) (sz:=49) (n:=acc.length) (lim:=1256584717458) (Zz cv) AC (uv λy hy=>(PB y hy).1) (sJ yW) AC;refine Eq.mpr (congrArg (Ok _) (he _)) ?_;refine aQ (x.bg.length-(k+1)) _ _ AC ⟨k+1,49,p3,acc++[cv],?_,.inl rfl,AC,aW _,?_,?_,λy hy=>?_,?_⟩
    .rw[cq];rfl
    .rw[DX]
     have:Z0 [cv]=Zz cv:=by unfold Z0;simp
     rw[this];exact om
    .rw[cq,tq];rfl
    .grind
    .rw[<-aO,Option.map_map]
     congr 1;funext l;simp
 .rw[aK (AC:¬(k:Int)<(x.bg.length:Int)),ae,hj3]
  rw[sE AC]at aO;have hGs:G=some acc:=by rw[<-aO];simp[yV]
  rw[hGs]at hR;simp only at hR;simp only[bd,ao];rw[hm];refine Ok.call (Zpl (n+2) m acc c 49 t AC (.inl rfl) ho.sl PB AC AC) ?_;rintro _ ⟨t1,bC,dA⟩;cases nn:BC m acc with
  |none=>
   rw[nn]at dA hR;simp only at dA hR;subst dA;refine⟨_,t1,rfl,?_⟩;rw[bF,aA,ao,Zi,ae];simp only[aA,ao,Zh];exact .mk ⟨t1,by rw[hR],bx.trans bC⟩
  |some F=>
   rw[nn]at dA hR;simp only at dA hR;obtain⟨iF,jF,rfl,hsF⟩:=dA;refine⟨_,t1,rfl,?_⟩;rw[bF,aA,ao,Zi,aa];have⟨t2,e2,eC,u2,zx⟩:=xS (n+2) m x.bg pc t1 AC (hct.mono bC);rw[Zj e2,bF,ao];have nx:=bN.pre ((NQ.trans bC).trans eC);refine Ok.call (ZjV (Q6) (n+2) t2 (ht.mono ((bx.trans bC).trans eC)) nx zx) ?_;rintro _ ⟨iW,jW,t3,rfl,fI,hsW⟩;refine⟨_,t3,rfl,?_⟩;simp only[bF,ao];refine Ok.call (Zkc (n+2) t3 (hsF.pre (eC.trans fI)) hsW) ?_;rintro _ rfl;refine⟨_,t3,rfl,?_⟩;simp only[aA,ao,Zh];refine .mk ⟨t3,?_,((bx.trans bC).trans eC).trans fI⟩;grind
end Go.Gv.F
namespace Go.Gv.F
open Go.Gv
end Go.Gv.F
