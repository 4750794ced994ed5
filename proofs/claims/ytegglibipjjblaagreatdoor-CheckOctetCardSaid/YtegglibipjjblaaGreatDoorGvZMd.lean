/- States alike: the program's own comparison. -/
import Derived.Test.YtegglibipjjblaaGreatDoorGvZMc
set_option linter.all false
namespace Go.Gv.F
open Go.Gv
variable {Y:Type}
variable {f g:Bool} {i i2 j j2 k m m2 o y:Nat} {V W:al}
theorem Zxp {s:St} {ds:ah} {xs:List dw} {x:dw} (hs:Sl s (some (i,o)) ds) (hh:kQ s ds xs) (e:xs[j]? =some x): ∃z p,(z=4\/p=none)/\Sl s p (bW x.bz)/\∀K:ah->M Y,bV i (j*2+o) 2 K s=K (mS x z p) s:=by
 have⟨z,p,hz,h1,_,_,h2⟩:=hh.get e;have hj:j<xs.length:=Fd
 exact⟨z,p,hz,h2,λK=>by rw[hs.yU (k:=j*2) (n:=2) (by rw[hh.len];omega) K,h1]⟩
theorem xi (w j:Nat):eN w j=w.testBit j:=by rw[Nat.testBit_eq_decide_div_mod_eq];rfl
theorem ZvI: ∀(w:Nat),0<w->∃k m,w=2^k*(2*m+1)
 |0,h=>absurd h EQ
 |w+1,_=>by
  by_cases h:(w+1)%2=1
  .exact⟨0,(w+1)/2,AC⟩
  .have⟨k,m,e⟩:=ZvI ((w+1)/2) AC
   exact⟨k+1,m,by rw[tn,Nat.mul_right_comm,<-e];omega⟩
termination_by w=>w
decreasing_by omega
theorem Ak (k a j:Nat):(2^k*a).testBit j=(decide (k<=j)&&a.testBit (j-k)):=by
 rw[Nat.testBit_two_pow_mul]
theorem I9 (m i:Nat):(2*m+1).testBit i=(decide (i=0)||(2*m).testBit i):=by
 cases i with
 |zero=>simp[Nat.testBit_zero]
 |succ i=>
  rw[Nat.testBit_succ,Nat.testBit_succ,show(2*m+1)/2=m by omega,show 2*m/2=m by omega];simp
theorem Zre (m:Nat):(2*m).testBit 0=false:=by simp[Nat.testBit_zero]
theorem ZzD (k a b j:Nat) (h:b<2^k):(2^k*a+b).testBit j=if j<k then b.testBit j else a.testBit (j-k):=by
 rw[Nat.testBit_two_pow_mul_add a h]
theorem Zza (k m:Nat):2^k*(2*m+1)&&& (2^k*(2*m+1)-1)=2^k*(2*m):=by
 have hp:0<2^k:=Ab k;have e:2^k*(2*m+1)-1=2^k*(2*m)+(2^k-1):=by rw[Nat.mul_add,cR];omega
 rw[e];refine H4 λj=>?_
 rw[Nat.testBit_and,Ak,ZzD k _ _ j AC,Ak];by_cases hj:j<k
 .rw[bP AC];simp
 grind[I9,Zre]
theorem ZzV (k m n:Nat) (hk:k<n) (h:2^k*(2*m+1)<2^n):2^k*(2*m+1)&&& (2^n-2^k*(2*m+1))=2^k:=by
 have hn:2^n=2^k*(2*2^(n-k-1)):=by rw[<-Nat.pow_succ',<-Nat.pow_add];congr 1;omega
 rw[hn]at h⊢;have hm:2*m+1<2*2^(n-k-1):=Nat.lt_of_mul_lt_mul_left h;have eG:m<2^(n-k-1):=AC
 rw[<-Nat.mul_sub,show 2*2^(n-k-1)-(2*m+1)=2*(2^(n-k-1)-(m+1))+1 by omega];refine H4 λj=>?_
 rw[Nat.testBit_and,Ak,Ak,Nat.testBit_two_pow,I9,I9];by_cases hj:k<=j
 .rw[aQ hj]
  by_cases h0:j=k
  .subst h0;simp
  .rw[bP (AC:¬k=j),bP (AC:¬j-k=0)]
   have⟨i,hi⟩: ∃i,j-k=i+1:=⟨j-k-1,AC⟩;rw[hi,Nat.testBit_succ,Nat.testBit_succ,Nat.mul_div_cancel_left _ EQ,Nat.mul_div_cancel_left _ EQ,Nat.testBit_two_pow_sub_succ eG];cases m.testBit i<;>simp
 grind
def vd (w:Nat):al:=(List.range 64).filter (eN w)
theorem ZvZ:vd 0=[]:=by
 rfl
theorem Zyq (k n:Nat) (h:k<n):List.range n=List.range k++k::List.range' (k+1) (n-k-1):=by
 have:n=k+(1+(n-k-1)):=AC
 rw[Mh,Mh]
 conv=>lhs;rw[this]
 rw[<-List.range'_append_1,tm 1,H0,fq]
theorem Zwr (k m:Nat) (hk:k<64):vd (2^k*(2*m+1))=k::vd (2^k*(2*m)):=by
 unfold vd;rw[Zyq k 64 hk,HY,HY,List.filter_cons,List.filter_cons];have h1: ∀a,(List.range k).filter (eN (2^k*a))=[]:=λa=>by
  rw[List.filter_eq_nil_iff];grind[xi,Ak]
 have h2:eN (2^k*(2*m+1)) k=true:=by rw[xi,Ak,I9];simp
 have h3:eN (2^k*(2*m)) k=false:=by rw[xi,Ak,yg,Zre];simp
 rw[h1,h1,h2,h3,bx rfl,aY EQ,gR,gR];refine congrArg (k:: ·) (List.filter_congr λj hj=>?_);rw[xi,xi,Ak,Ak,I9,bP (show ¬j-k=0 by have:=List.mem_range'_1.1 hj;omega)];rfl
theorem Vg (w:Nat):(vd w).length<=64:=by
 have:=List.length_filter_le (eN w) (List.range 64);rw[List.length_range]at this;exact this
def yG:Nat->al->ak
 |_,[]=>[]
 |b,w::r=>(vd w).map (λj=>((b*64+j:Nat):Int))++yG (b+1) r
def dz (W:al):ak:=yG 0 W
theorem ZpP: ∀(b:Nat) (W:al),(yG b W).length<=64*W.length
 |_,[]=>aJ _
 |b,w::r=>by
  unfold yG;have:=ZpP (b+1) r;have:=Vg w;rw[ba,mC,cQ];omega
theorem ZpN: ∀(b:Nat) (W:al) (w:Nat),yG b (W++[w])=yG b W++(vd w).map (λj=>(((b+W.length)*64+j:Nat):Int))
 |b,[],w=>by simp[yG]
 |b,x::r,w=>by
  rw[oo];unfold yG;rw[ZpN (b+1) r w,dL,cQ,Nat.add_right_comm b 1,vI b]
theorem ZvP (W:al) (h:i<W.length):dz (W.take (i+1))=dz (W.take i)++(vd W[i]).map (λj=>((i*64+j:Nat):Int)):=by
 unfold dz;rw[oq h,ZpN,cB,pA AC,fq]
def QT (Bd:Zg):Prop:=∀(n k m:Nat) (st:St),xe st->k<64->2^k*(2*m+1)<18446744073709551616->run Bd (n+1) 86 [.w ((2^k*(2*m+1):Nat):Int)] st=some (.val [.i (k:Int)],st)
theorem Zw4 {a b:Nat} (ha:a<18446744073709551616) (hb:b<18446744073709551616:=by omega):bits .and .u64 (a:Int) (b:Int)=((a&&& b:Nat):Int):=acd ha hb
theorem SM (W:al) (i:Nat):(dz (W.take i)).length<=64*W.length:=by
 have h1:=ZpP 0 (W.take i);grind[dz]
variable {Bd:Zg} [h:HA Bd]
theorem ZtR (hz:QT Bd) (n:Nat) (st:St) (ht:xe st) (hs:gP st f i j m W) (hn:80<=n):
  Ok (λo=>∃p s',o=(.val [.slice 1 p (dz W).length],s')/\aB st s'/\Sl s' p (ints (dz W))/\∀b∈aM p,st.length<=b) (run Bd n 172 [.ptr (some (i,0))] st):=by
 obtain⟨n,rfl⟩: ∃k,n=k+2:=⟨n-2,AC⟩;rw[Ze,h.af0];unfold Rw jO gj l9 xj cK bj fj lX Li jy
 try dsimp only
 rw[fw,ao,bh,Zn hs.hd rfl];simp only[kP,Za];have hle:=hs.le;have hlen:=hs.len;refine Zj _ (λq y s=>∃(a z:Nat) (p:ai),y=[.slice z p (dz (W.take a)).length,.i a]/\(z=1\/p=none)/\a<=W.length/\W.length-a<=q/\bc st s p (ints (dz (W.take a)))) ?_ W.length (n+1) _ _ ⟨0,0,none,rfl,.inr rfl,cN _,AC,bc.nil (.refl st)⟩ AC;rintro q _ s ⟨a,z,p,rfl,hzp,ha,hq,ho⟩ rec aN;simp only[au,Zh 1 z p _ hzp,ao];have fW:=hs.pre ho.1;by_cases av:a<W.length
 .rw[aR,bh,Zc (Zi av),bn]
  have mq:=hs.lt _ (jj av);rw[Zn (d:= .w (W[a]:Nat)) fW.wd (by rw[cR,fE];simp[Zu,av]),bg];have vx:=ZvP W av;have hA:=SM W a;generalize dz (W.take a)=A at ho vx hA;generalize W[a]=w at mq vx;have cL:aq ((a:Int)+1)=((a+1:Nat):Int):=Zb;have gB:aq ((a:Int)*64)=((a*64:Nat):Int):=by rw[Zb];omega
  rw[cL,gB];have⟨F,hF⟩: ∃F:Nat->Int,(λj=>((a*64+j:Nat):Int))=F:=⟨_,rfl⟩;rw[hF]at vx;refine Zj _ (λq' y t=>∃(w' z':Nat) (D:al) (p':ai),y=[.slice z' p' (A++D.map F).length,.w (w':Int)]/\(z'=1\/p'=none)/\w'<18446744073709551616/\D++vd w'=vd w/\(vd w').length<=q'/\bc st t p' (ints (A++D.map F))) ?_ 64 (n+1) _ _ ⟨w,1,[],p,by rw[List.map_nil,fP],.inl rfl,mq,rfl,Vg w,by rw[List.map_nil,fP];exact ho⟩ AC;rintro q' _ t ⟨w',z',D,p',rfl,akr,PY,hD,ug,oh⟩ dP mW;simp only[au,Zh 1 z' p' _ akr,ao];by_cases Dc:w'=0
  .subst Dc
   rw[pL FS,aZ,ao];rw[ZvZ,fP]at hD;rw[hD,<-vx]at oh⊢;exact aN (W.length-(a+1)) _ _ AC ⟨a+1,1,p',rfl,.inl rfl,AC,aJ _,oh⟩
  .have hnz:(!((w':Int)==0))=true:=by rw[kN,dM];omega
   have⟨k,m',e⟩:=ZvI w' AC;have hk:k<64:=by
    rcases jw k 64 with h|h
    .exact h
    .have h1:2^64<=2^k:=pB EQ h
     have h2:2^k*1<=2^k*(2*m'+1):=Nat.mul_le_mul_left _ AC;omega
   rw[hnz,ae];subst e;rw[Zk (hz n k m' t (ht.mono oh.1) hk PY),au,ao];have kY:aq (((a*64:Nat):Int)+(k:Int))=F k:=by rw[<-hF];exact Zb
   rw[kY];have vw:IntKind.wrap .u64 (((2^k*(2*m'+1):Nat):Int)-1)=((2^k*(2*m'+1)-1:Nat):Int):=by
    have h1:(((2^k*(2*m'+1):Nat):Int)-1)=((2^k*(2*m'+1)-1:Nat):Int):=AC
    rw[h1];exact AD
   have iY:bits .and .u64 (((2^k*(2*m'+1):Nat):Int)) (IntKind.wrap .u64 (((2^k*(2*m'+1):Nat):Int)-1))=((2^k*(2*m'):Nat):Int):=by
    rw[vw,Zw4 PY,Zza]
   rw[iY];rw[Zwr k m' hk]at hD ug;have hlD:(A++D.map F).length<=1000000:=by
    have h1:=congrArg List.length hD;rw[ba]at h1;have:=Vg w;rw[ba,mC];omega
   have⟨p2,s2,du,sD,he⟩:=oh.Dq (Y:=ah) (sz:=1) (n:=(A++D.map F).length) (lim:=8796093022208) [.i (F k)] (yh 0) (by simp[ints]) rfl AC;refine Eq.mpr (congrArg (Ok _) (he _)) ?_;refine mW (vd (2^k*(2*m'))).length _ _ (by simp at ug;omega) ⟨_,1,D++[k],p2,?_,.inl rfl,?_,by rw[dL];exact hD,aJ _,?_⟩
   .rw[eV,<-dL,ba (as:=A++D.map F)];rfl
   .have:2^k*(2*m')<=2^k*(2*m'+1):=Nat.mul_le_mul_left _ AC
    omega
   .rw[eV,<-dL]
    unfold ints at du⊢;rw[eV (l₁:=A++D.map F)];exact du
 .rw[aU]
  rw[aZ,ao,Zd];rw[dG AC]at ho⊢;refine .mk ⟨p,s,rfl,ho.1,ho.sl,λb hb=>?_⟩;rcases ho.2 with⟨rfl,_⟩|⟨i',rfl,h1,_⟩
  .cases hb
  .rw[cH.1 hb];exact h1
def ael (x:Int):Int:=match Rj (λ_ _=>fail) 0 [.w x] []with
 |some (.val [.int _ v],_)=>v
 |_=>0
theorem Zs7 (n:Nat) (x:Int) (st:St):run Bd (n+1) 210 [.w x] st=some (.val [.i (ael x)],st):=by
 rw[Ze,h.ago];rfl
def WW:Int->al->Int
 |a,[]=>a
 |a,w::r=>WW (aq (a+ael w)) r
def GC (W:al):Int:=WW 0 W
theorem Zso (n:Nat) (st:St) (hs:gP st f i j m W) (hn:80<=n):Ok (λo=>o=(.val [.i (GC W)],st)) (run Bd n 183 [.ptr (some (i,0))] st):=by
 obtain⟨n,rfl⟩: ∃k,n=k+2:=⟨n-2,AC⟩;rw[Ze,h.af3];unfold RG jO qg jx xj cK Li lX gG
 try dsimp only
 rw[fw,ao,bh,Zn hs.hd rfl,kP,Za];have hle:=hs.le;have hlen:=hs.len;refine Zj _ (λq y s=>∃(a:Nat) (c:Int),y=[.i c,.i a]/\a<=W.length/\W.length-a<=q/\s=st/\WW c (W.drop a)=GC W) ?_ W.length (n+1) _ _ ⟨0,0,rfl,cN _,AC,rfl,rfl⟩ AC;rintro q _ s ⟨a,c,rfl,ha,hq,rfl,hc⟩ rec aN;simp only[au,ao];by_cases av:a<W.length
 .rw[aR,bh,Zc (Zi av),bn]
  rw[Zn (d:= .w (W[a]:Nat)) hs.wd (by rw[cR,fE];simp[Zu,av]),bg,Zk (Zs7 n _ s),au,ao];have cL:aq ((a:Int)+1)=((a+1:Nat):Int):=Zb;rw[cL];refine aN (W.length-(a+1)) _ _ AC ⟨a+1,_,rfl,AC,aJ _,rfl,?_⟩;rw[<-hc,iR av];rfl
 .rw[aU]
  rw[Zd];rw[lx AC]at hc;exact .mk (by rw[<-hc];rfl)
theorem Zqq (n:Nat) (W V:al) (a b:Nat) (f g:Bool) (st:St) (ha:st[a]? =some (some ⟨f,Zu W⟩)) (hb:st[b]? =some (some ⟨g,Zu V⟩)) (hW:W.length<100000) (hn:W.length+3<=n):
  Ok (λo=>o=(.val [.bool (decide (W=V))],st)) (run Bd n 236 [.slice 1 (some (a,0)) W.length,.slice 1 (some (b,0)) V.length] st):=by
 obtain⟨n,rfl⟩: ∃k,n=k+2:=⟨n-2,AC⟩;rw[Ze,h.agL];unfold QW ck Q_ dj xj Lb Li;simp only[aZ,ao];have no:W≠V->Ok (λo=>o=(.val [.bool (decide (W=V))],st)) ((aw [.bool false]:M ah) st):=by
  intro hm;rw[Zd];exact .mk (by rw[bP hm])
 by_cases hlen:W.length=V.length;rotate_left
 .rw[show((W.length:Int)==(V.length:Int))=false from dM.2 AC,bD,ae]
  grind
 rw[show((W.length:Int)==(V.length:Int))=true by rw[hlen];simp,bI,af,Za];refine Zj _ (λk v s=>∃i:Nat,v=[.i i]/\i<=W.length/\W.length-i<=k/\s=st/\∀j,j<i->W[j]? =V[j]?) ?_ W.length (n+1) _ _ Fd AC;rintro k _ s ⟨i,rfl,hi,hk,rfl,dH⟩ rec aN;simp only[au,ao];by_cases av:i<W.length
 .have og:i<V.length:=AC
  rw[aR,bh,Zc (Zi av),bn,Zn (d:= .w (W[i]:Nat)) ha (by rw[cR,fE];simp[Zu,av]),bg,bh,Zc (Zi og),Zn (d:= .w (V[i]:Nat)) hb (by rw[cR,fE];simp[Zu,og]),bg];by_cases hw:W[i]=V[i]
  .rw[show(((W[i]:Nat):Int)==((V[i]:Nat):Int))=true by rw[hw];simp,bI,af,Zb]
   refine aN (W.length-(i+1)) _ _ AC ⟨i+1,rfl,AC,AC,rfl,λj hj=>?_⟩;by_cases oJ:j<i
   .exact dH j oJ
   grind
  grind
 .rw[aU,Zd]
  refine .mk ?_;have:W=V:=th λj=>by
   by_cases hj:j<i
   .exact dH j hj
   grind
  rw[aQ this]
theorem Zmk (n:Nat) (st:St) (hs:gP st f i j m W) (mo:gP st g i2 j2 m2 V) (hn:80<=n:=by omega):
  Ok (λo=>o=(.val [.bool (decide (m=m2)&&decide (W=V))],st)) (run Bd n 202 [.ptr (some (i,0)),.ptr (some (i2,0))] st):=by
 obtain _|n:=n;omega;rw[Ze,h.agh];unfold Rt jO Zm az bF Lb;simp only[fw,ao,bh];rw[Zn hs.hd rfl,bg,Zn mo.hd rfl,bg,Za];have hle:=hs.le;have hlen:=hs.len;by_cases hm:m=m2
 .rw[show((m:Int)==(m2:Int))=true by rw[hm];simp,ae,Zn hs.hd rfl]
  rw[kP,Zn mo.hd rfl,kP];refine Ok.call (Zqq n W V j j2 f g st hs.wd mo.wd AC AC) ?_;rintro _ rfl;refine⟨_,st,rfl,?_⟩;simp only[ar,ao,Zd];exact .mk (by rw[aQ hm,dt])
 .rw[show((m:Int)==(m2:Int))=false from dM.2 AC,af]
  simp only[ar,ao,Zd];exact .mk (by rw[bP hm,gF])
def tG (l:List ZS):ah:=(l.map ZZ).flatten
theorem MY {x:ZS} (h:x.fu.length=48):(ZZ x).length=49:=by simp[ZZ,cQ,Zw,h]
theorem UB: ∀ {l:List ZS},(∀x∈l,x.fu.length=48)->(tG l).length=l.length*49
 |[],_=>rfl
 |x::l,h=>by
  show(ZZ x++tG l).length=_;rw[ba,MY (h x Do),UB λy hy=>h y (by simp[hy]),cQ];omega
theorem Znp: ∀ {l:List ZS} {j:Nat} {e:ZS},(∀x∈l,x.fu.length=48)->l[j]? =some e->((tG l).drop (j*49)).take 49=ZZ e
 |[],j,e,_,h=>by simp at h
 |x::l,0,e,hl,h=>by
  simp only[ly,gf]at h;subst h;rw[rU,dF];have:=MY (hl x Do);show(ZZ x++tG l).take 49=_;rw[<-this,DA]
 |x::l,j+1,e,hl,h=>by
  have e2:tG (x::l)=ZZ x++tG l:=rfl;have h49:=MY (hl x Do);rw[e2,show(j+1)*49=(ZZ x).length+j*49 by omega,<-kd,uD];exact Znp Fd (by simpa using h)
theorem Zus (l m:List ZS):tG (l++m)=tG l++tG m:=by
 simp[tG]
def Dp (m:Nat) (x:ZS):Bool:=bif decide (0<(fC x 384).length)then decide ((fC x 384).getLastD 0>=(m:Int))else false
def Ci (m:Nat):Nat->List ZS->al->Option (al)
 |_,[],W=>some W
 |i,x::r,W=>bif decide (x.no=i)&& !Dp m x then Ci m (i+1) r ((fC x 384).foldl (bA m) W)else none
def AL (m:Nat) (l:List ZS):Option (al):=bif decide ((l.length:Int)=p9 m 384)then Ci m 0 l (gD m [])else none
theorem Zqi (n:Nat) (x:Int) (st:St):run Bd (n+1) 240 [.i x] st=some (.val [.i (p9 x 384)],st):=by
 rw[Ze,h.agP];rfl
theorem ZsT (n m:Nat) (l:List ZS) (p:ai) (z:Nat) (st:St) (hm:m<=3072) (hz:z=49\/p=none) (hl:Sl st p (tG l)) (CC: ∀x∈l,x.fu.length=48/\x.no<8) (fV:l.length<1000) (hn:2000<=n):
  Ok (λo=>∃s',aB st s'/\match AL m l with
   |none=>o=(.val [.ptr none,.bool false],s')
   |some F=>∃i j,o=(.val [.ptr (some (i,0)),.bool true],s')/\gP s' false i j m F) (run Bd n 200 [.i (m:Int),.slice z p l.length] st):=by
 obtain⟨n,rfl⟩: ∃k,n=k+2:=⟨n-2,AC⟩;have⟨R,hR⟩: ∃R,AL m l=R:=⟨_,rfl⟩;rw[hR];unfold AL at hR;rw[Ze,h.age];unfold TI az Ae Q_ dj N_ jL C_ Zm cK Li Lb
 try dsimp only
 rw[au,Zh 49 z p _ hz,ao,Za,aU,bP (AC:¬(m:Int)>3072)];simp only[ar,ao];rw[Za,af,Zk (Zqi n m st)];simp only[au,ar,ao];have hq:((l.length:Int)==p9 m 384)=decide ((l.length:Int)=p9 m 384):=rfl;rw[hq];cases CL:decide ((l.length:Int)=p9 m 384)with
 |false=>
  rw[CL,af]at hR;rw[bD,ae,Zd,<-hR];exact .mk ⟨st,.refl st,rfl⟩
 |true=>
 rw[CL,ae]at hR;rw[bI,af];have⟨s1,e1,aH,Pu,PR⟩:=U7 (n+1) m [] none st hm rfl (by show 0<1000000;omega) Fd;have yO:run Bd (n+1) 177 [.i (m:Int),.slice 0 none 0] st=some (.val [.ptr (some (st.length+1,0))],s1):=by
  rw[Ze,h.acC]at e1⊢;exact e1
 rw[Zk yO,fw,ao,Za];refine Zj _ (λq y s=>∃(i:Nat) (W:al),y=[.i i]/\i<=l.length/\l.length-i<=q/\aB st s/\gP s false (st.length+1) st.length m W/\Ci m i (l.drop i) W=R) ?_ l.length (n+1) _ _ ⟨0,_,rfl,cN _,AC,aH,PR,hR⟩ AC;rintro q _ s ⟨i,W,rfl,hi,hq,iZ,dy,aL⟩ rec aN;rw[au,ao];by_cases av:i<l.length
 .have dR:=hl.mono iZ
  have oi:l[i]? =some l[i]:=cc av;have⟨XU,h8x⟩:=CC _ (jj av);have hlen:=UB λx hx=>(CC x hx).1
  obtain⟨i1,o1,rfl⟩:=dR.cS (by rw[hlen];omega);have gr:l.drop i=l[i]::l.drop (i+1):=iR av;rw[gr]at aL;rw[aR,bh,Zc (Zi av),bn,dR.yU (k:=i*49) (n:=49) (by rw[hlen];omega),Znp (λx hx=>(CC x hx).1) oi];generalize l[i]=x at aL XU h8x;unfold Ci at aL;have iz:(bT x.fu).length=48:=by rw[Zw,XU]
  show Ok _ (aC .i64 (.i x.no::bT x.fu) _ s);rw[au,bN iz,bN (by simp[iz])];refine Ok.call (Zsd (n+1) x XU h8x s AC) ?_;rintro _ ⟨px,s2,rfl,bd,ua⟩;refine⟨_,s2,rfl,?_⟩;rw[aZ,ao];have zA:=dy.pre bd;have alZ:=ZrM x 384;have nE: ∀t,aB st t->R=none->Ok (λo=>∃s',aB st s'/\match R with
   |none=>o=(.val [.ptr none,.bool false],s')
   |some F=>∃i j,o=(.val [.ptr (some (i,0)),.bool true],s')/\gP s' false i j m F) ((aw [.ptr none,.bool false]:M ah) t):=by
   intro t ht e;rw[e,Zd];exact .mk ⟨t,ht,rfl⟩
  have cV:(((x.no:Int))==(i:Int))=decide (x.no=i):=by
   by_cases e:x.no=i
   .rw[e,aQ rfl];grind
   grind
  rw[cV];cases cC:decide (x.no=i)with
  |false=>
   rw[cC,gF,af]at aL;rw[Za,bD,ae];simp only[ar,ao,ae];exact nE s2 (iZ.trans bd) aL.symm
  |true=>
  rw[cC,dt]at aL;have⟨ov,zu⟩: ∃ov,Dp m x=ov:=⟨_,rfl⟩;rw[zu]at aL;unfold Dp at zu;refine Ok.join λcA CX=>?_
  have hA:Ok (λo=>∃s',aB st s'/\match R with
   |none=>o=(.val [.ptr none,.bool false],s')
   |some F=>∃i j,o=(.val [.ptr (some (i,0)),.bool true],s')/\gP s' false i j m F) (cA [.bool ov] s2):=by
   rw[CX];simp only[ar,ao];cases ov
   .rw[bD,ae]at aL;rw[af];have EM:mG [st.length] px:=λb o e hb=>by
     rw[cH.1 hb]at e;subst e;have⟨all,e1⟩:=ua.2 _ _ rfl;rw[zA.wd]at e1;cases e1
    rw[Zk (Iu (n+1) (fC x 384) px s2 zA AC ua.1 EM),ao];have cL:aq ((i:Int)+1)=((i+1:Nat):Int):=Zb;rw[cL];have ajH:=iZ.trans bd;refine aN (l.length-(i+1)) _ _ AC ⟨i+1,_,rfl,AC,aJ _,tH ajH (aJ _) _,zA.add AC _ (by rw[(ZG m _ _).1]) ((ZG m _ _).2 zA.lt),aL⟩
   .rw[bI,af]at aL;rw[ae];exact nE s2 (iZ.trans bd) aL.symm
  rw[bI,af,Za];cases xN:decide (0<(fC x 384).length)
  .rw[xN,af]at zu;have:=DD xN;rw[aU];simp only[ar,ao];grind
  .rw[xN,ae]at zu;have al6:=ng xN;obtain⟨i2,o2,rfl⟩:=ua.1.cS (by simp[ints];omega);have gB:aq ((((fC x 384).length:Nat):Int)-1)=(((fC x 384).length-1:Nat):Int):=by rw[Zb];omega
   rw[aR,bh,gB,Zc (Zi),bn,ua.1.dX (ZJ),bg];have Kl:(fC x 384)[(fC x 384).length-1]' AC=(fC x 384).getLastD 0:=by
    rw[List.getLastD_eq_getLast?,List.getLast?_eq_getElem?,cc AC];rfl
   rw[Kl,zu];simp only[ar,ao];exact hA
 .rw[aU]
  simp only[Zd];rw[lx AC]at aL;rw[<-aL];exact .mk ⟨s,iZ,_,_,rfl,dy⟩
def bM (v:Int):Nat:=(v%18446744073709551616).toNat
def ta (v:Int):UInt8:=UInt8.ofNat (v%256).toNat
theorem tF (v:Int):bM v<18446744073709551616:=by unfold bM;omega
theorem ZAd {x:Nat} (h:x<18446744073709551616):bM (x:Int)=x:=by unfold bM;omega
theorem Gm (v:Int):IntKind.wrap .u64 v=(bM v:Int):=by
 have e:v=v/18446744073709551616*18446744073709551616+(bM v:Int):=by unfold bM;omega
 have h:=AD (tF v);have hm:IntKind.wrap .u64 v=v%18446744073709551616:=rfl;rw[hm];unfold bM;omega
theorem ZtF (v:Int):IntKind.wrap .u8 v=((ta v).toNat:Int):=by
 have hm:IntKind.wrap .u8 v=v%256:=rfl;rw[hm];unfold ta;show _=(((v%256).toNat%256:Nat):Int);omega
theorem ZqM (n:Nat) (v i:Nat) (hv:v<18446744073709551616) (st:St) (hi:i<1000) (hn:i+3<=n):
  Ok (λo=>o=(.val [.u ((v/256^i%256:Nat):Int)],st)) (run Bd n 248 [.w (v:Int),.i (i:Int)] st):=by
 obtain⟨n,rfl⟩: ∃k,n=k+2:=⟨n-2,AC⟩;rw[Ze,h.agX];unfold Sq B3 Cj Aw lA ZF lX;simp only[au,ao,Za];refine Zj _ (λq y s=>∃k:Nat,y=[.w ((v/256^k:Nat):Int),.i (k:Int)]/\k<=i/\i-k<=q/\s=st) ?_ i (n+1) _ _ ⟨0,by rw[Nat.pow_zero,Nat.div_one];rfl,cN _,AC,rfl⟩ AC;rintro q _ s ⟨k,rfl,hk,hq,rfl⟩ rec aN;simp only[au,ao];have hd:v/256^k<18446744073709551616:=H5 (FH _ _) hv;by_cases av:k<i
 .rw[aR]
  have h1:((v/256^k:Nat):Int).tdiv 256=((v/256^(k+1):Nat):Int):=by
   rw[tn,<-H3];rfl
  have h2:v/256^(k+1)<18446744073709551616:=Fd
  rw[h1,AD h2,Zb];exact aN (i-(k+1)) _ _ AC Fd
 .rw[aU]
  have:k=i:=AC
  subst this;rw[Zd];refine .mk ?_;have h1:((v/256^k:Nat):Int).tmod 256=((v/256^k%256:Nat):Int):=rfl;rw[h1];have h2:IntKind.wrap .u8 ((v/256^k%256:Nat):Int)=((v/256^k%256:Nat):Int):=by
   show((v/256^k%256:Nat):Int)%256=_;omega
  rw[h2]
theorem ZxC (v n:Nat):bB v (n+1)=bB v n++[UInt8.ofNat (v/256^n)]:=by
 rw[Wc];rfl
theorem ZwT (x:Nat) (_h:x<256):uV [.u (x:Int)]=some [UInt8.ofNat x]:=rfl
theorem uO (n:Nat) (v k:Nat) (hv:v<18446744073709551616) (st:St) (hk:k<1000:=by omega) (hn:k+10<=n:=by omega):
  Ok (λo=>∃s',o=(.val [.str (bB v k)],s')/\aB st s') (run Bd n 213 [.w (v:Int),.i (k:Int)] st):=by
 obtain⟨n,rfl⟩: ∃k,n=k+2:=⟨n-2,AC⟩;rw[Ze,h.agq];unfold T6 B3 uL vQ Ls ZF lA fF;simp only[au,ao,Za];refine Zj _ (λq y s=>∃i:Nat,y=[.str (bB v i),.i (i:Int)]/\i<=k/\k-i<=q/\aB st s) ?_ k (n+1) _ _ ⟨0,rfl,cN _,AC,.refl st⟩ AC;rintro q _ s ⟨i,rfl,hi,hq,hp⟩ rec aN;simp only[bZ,au,ao];by_cases av:i<k
 .rw[aR]
  refine Ok.call (ZqM (n+1) v i hv s AC AC) ?_;rintro _ rfl;refine⟨_,s,rfl,?_⟩;rw[au,ao,ZD,Ja (by show 0+1<=1;omega)];show Ok _ (nr [.u ((v/256^i%256:Nat):Int)] _ _);unfold nr;rw[ZwT _ (Nat.mod_lt _ EQ)];simp only;rw[Zc (gO (by rw[Zr];show i+1<=_;omega)),Zb];refine aN (k-(i+1)) _ _ AC ⟨i+1,?_,AC,aJ _,hp.trans (aB.new _ _)⟩;rw[ZxC];have:UInt8.ofNat (v/256^i%256)=UInt8.ofNat (v/256^i):=by
   refine DC.1 ?_;simp
  rw[this];rfl
 .rw[aU]
  have:i=k:=AC
  subst this;rw[Zd];exact .mk ⟨s,rfl,hp⟩
theorem Zse (n:Nat) (x:Nat) (hx:x<4294967296) (st:St):run Bd (n+1) 288 [.y (x:Int)] st=some (.val [.y (nK x:Nat)],st):=by
 rw[Ze,h.ahq];unfold Tw lW nK
 try dsimp only
 rw[au,ao];have h1:((x:Int).tmod 2==1)=decide (x%2=1):=by
  have e:(x:Int).tmod 2=((x%2:Nat):Int):=rfl;rw[e];by_cases h:x%2=1
  .rw[h,aQ rfl];rfl
  grind
 have h2:(x:Int).tdiv 2=((x/2:Nat):Int):=rfl;rw[h1,h2,Ce];by_cases h:x%2=1
 .rw[aR h,bx h]
  have:=Fs (x:=x/2) (y:=2197175160) AC;rw[show((2197175160:Nat):Int)=2197175160 from rfl]at this;rw[this];rfl
 .rw[aU h,aY h];rfl
theorem ZqH (n:Nat) (x k:Nat) (hx:x<4294967296) (st:St) (hk:k<1000) (hn:k+4<=n):
  Ok (λo=>o=(.val [.y (ZO k x:Nat)],st)) (run Bd n 264 [.y (x:Int),.i (k:Int)] st):=by
 obtain⟨n,rfl⟩: ∃k,n=k+2:=⟨n-2,AC⟩;rw[Ze,h.ahb];unfold Sr cT yE yH vZ lW q8;simp only[au,ao,Za];have og: ∀i,ZO i x<4294967296:=λi=>by
  induction i with
  |zero=>exact hx
  |succ i ih=>rw[MM];exact NQ ih
 refine Zj _ (λq y s=>∃i:Nat,y=[.y (ZO i x:Int),.i (i:Int)]/\i<=k/\k-i<=q/\s=st) ?_ k (n+1) _ _ ⟨0,rfl,cN _,AC,rfl⟩ AC;rintro q _ s ⟨i,rfl,hi,hq,rfl⟩ rec aN;simp only[au,ao];by_cases av:i<k
 .rw[aR,Zk (Zse n _ (og i) s)]
  rw[au,ao,<-MM,Zb];exact aN (k-(i+1)) _ _ AC Fd
 .rw[aU]
  have:i=k:=AC
  subst this;rw[Zd];exact .mk rfl
theorem ZsP (n:Nat) (a:ai) (l:aj) (st:St) (ha:dD st a l) (hl:l.length<1000000) (hn:l.length+20<=n):
  Ok (λo=>o=(.val [.y (tO l:Nat)],st)) (run Bd n 242 [.slice 1 a l.length] st):=by
 obtain⟨n,rfl⟩: ∃k,n=k+2:=⟨n-2,AC⟩;rw[Ze,h.agR];unfold TH ck yE yH N_ mN vZ lW q8
 try dsimp only
 rw[aZ,ao,Za];refine Zj _ (λq y s=>∃(i:Nat),y=[.y (((l.take i).foldl oV 4294967295:Nat):Int),.i (i:Int)]/\i<=l.length/\l.length-i<=q/\s=st) ?_ l.length (n+1) _ _ Fd AC;rintro q _ s ⟨i,rfl,hi,hq,rfl⟩ rec aN;simp only[au,ao];have hx:=Cd (l.take i) (x:=4294967295) AC;by_cases av:i<l.length
 .obtain⟨i1,o1,rfl⟩:=ha.cS AC
  have oi:l[i]? =some l[i]:=cc av;have hY:l.take (i+1)=l.take i++[l[i]]:=Do
  rw[aR,bh,Zc (Zi av),bn,ha.dX oi,bg];have hc:=(l[i]).toNat_lt;rw[Ce,Fs hx];refine Ok.call (ZqH (n+1) _ 8 (FL (n:=32) AC AC) s AC AC) ?_;rintro _ rfl;refine⟨_,s,rfl,?_⟩;rw[au,ao,Zb];refine aN (l.length-(i+1)) _ _ AC ⟨i+1,?_,AC,aJ _,rfl⟩;rw[hY,wZ];rfl
 .rw[aU]
  rw[Zd];rw[dG AC]at hx⊢;refine .mk ?_;have h1:(4294967295:Int)-((l.foldl oV 4294967295:Nat):Int)=(tO l:Int):=by unfold tO;omega
  rw[h1,Ce (WM l)]
def ZR (n:Nat):aj:=List.replicate n 0
def ez (s:aj) (n:Nat):aj:=s++ZR (n-s.length)
def qL (kind tag:Int) (body:aj):aj:=[ta kind,ta tag,0,0]++ez body 56
def gK (kind tag:Int) (body:aj):aj:=bB (tO (qL kind tag body)) 4++qL kind tag body
theorem ZrC (n:Nat):iO n [.u 0]=bT (ZR n):=by
 simp[iO,ZR,bT]
theorem ZrZ (n:Nat) (s:aj) (k:Nat) (hs:s.length<1000000) (hk:k<1000000) (st:St):
  Ok (λo=>∃s',o=(.val [.str (ez s k)],s')/\aB st s') (run Bd (n+1) 249 [.str s,.i (k:Int)] st):=by
 rw[Ze,h.agY];unfold Tf qV lA Ls
 try dsimp only
 rw[bZ,au,ao];have hw:aq ((k:Int)-(s.length:Int))=(k:Int)-(s.length:Int):=Zb;have hd:(if (k:Int)-(s.length:Int)<0 then(0:Int)else(k:Int)-(s.length:Int))=((k-s.length:Nat):Int):=by
  split<;>omega
 rw[hw,hd,bn,Zc (by rw[aS,aS,bq,bq,bq];omega),ZD,ZrC,Ja (by rw[Zw];simp[ZR]),dF,dG (by rw[Zw];simp[ZR]),<-qi,uJ,Zc (gO (by grind[ZR])),Zd];exact .mk ⟨_,rfl,aB.new _ _⟩
theorem BV (n:Nat) (kind tag:Int) (body:aj) (hb:body.length<100000) (st:St) (hn:body.length+200<=n:=by omega):
  Ok (λo=>∃s',o=(.val [.str (gK kind tag body)],s')/\aB st s') (run Bd n 214 [.i kind,.i tag,.str body] st):=by
 obtain⟨n,rfl⟩: ∃k,n=k+2:=⟨n-2,AC⟩;rw[Ze,h.agr];unfold Th mF lV vZ jM fF bj ZF Ls;simp only[bZ,au,ao];have CK:([.u (IntKind.wrap .u8 kind),.u (IntKind.wrap .u8 tag),.u 0,.u 0]:ah)=bT [ta kind,ta tag,0,0]:=by
  rw[ZtF,ZtF];rfl
 rw[CK,ZD,Ja (by rw[Zw];show 0+4<=4;omega),dF,dG (by rw[Zw];show 4<=4;omega),<-qi,uJ];refine Ok.cx (ZrZ n body 56 AC AC _) λs1 aH=>?_
 rw[bZ,ao];have hS:[ta kind,ta tag,0,0]++ez body 56=qL kind tag body:=rfl;have hSl:(qL kind tag body).length=4+(ez body 56).length:=Fd
 have alS:(ez body 56).length<=body.length+56:=by
  simp[ez,ZR]
 rw[Zc (gO (by show 4+_<=_;omega)),hS,ZD];refine Ok.call (ZsP (n+1) (some (s1.length,0)) (qL kind tag body) _ ⟨false,Z6 (qL kind tag body),Do,Nat.le_of_eq (by rw[fq,qi]),by rw[dF,qi,rQ]⟩ AC AC) ?_;rintro _ rfl;refine⟨_,_,rfl,?_⟩;rw[au,ao];have hc:=WM (qL kind tag body);rw[AD];refine Ok.call (uO (n+1) _ 4 AC _) ?_;rintro _ ⟨s2,rfl,bd⟩;refine⟨_,_,rfl,?_⟩;rw[bZ,ao,Zc (gO (by rw[Zr];omega)),Zd];exact .mk ⟨s2,rfl,(((aB.new _ _).trans aH).trans (aB.new _ _)).trans bd⟩
theorem ZlI (n:Nat) (a:Int) (k:Nat) (hk:0<k) (jR:k<1000000000) (_ha: -9223372036854775808<=a/\a<=9223372036854775807) (st:St):run Bd (n+1) 179 [.i a,.i (k:Int)] st=some (.val [.i (a%(k:Int))],st):=by
 rw[Ze,h.af2];unfold S8 jx Li;simp only[au,ao];have h0:(!((k:Int)==0))=true:=by rw[kN,dM];omega
 rw[Zc h0,Zc h0,Zd];have hb:=Int.tmod_lt_of_pos a (AC:(0:Int)<k);have cZ: -(k:Int)<a.tmod k:=by
  have:=Int.neg_tmod a k;have h3:=Int.tmod_lt_of_pos (-a) (AC:(0:Int)<k);omega
 have hw:aq (a.tmod k+k)=a.tmod k+k:=Zb;rw[hw];have he:(a.tmod k+k).tmod k=a%k:=by
  rw[Int.tmod_eq_emod_of_nonneg AC,Int.add_emod_right];have e:a.tmod k=a+k*(-(a.tdiv k)):=by
   have:=Int.mul_tdiv_add_tmod a k;rw[Int.mul_neg];omega
  rw[e,Int.add_mul_emod_self_left]
 rw[he]
def dJ (l:ak):aj:=(l.map λk=>bB (bM k) 2).flatten
theorem pF (l:ak):(dJ l).length=2*l.length:=by
 unfold dJ;induction l with
 |nil=>rfl
 |cons k l ih=>rw[kf,vH,ba,Zr,ih,cQ];omega
theorem ID (l:ak) (h:i<l.length):dJ (l.take (i+1))=dJ (l.take i)++bB (bM l[i]) 2:=by
 unfold dJ;rw[oq h,eV,Fu];simp
def iU (k:Int):Bool:=decide (k>=2)&&decide (k<=3071)
theorem Im (n:Nat) (k:Int) (st:St):run Bd (n+1) 251 [.i k] st=some (.val [.bool (iU k)],st):=by
 rw[Ze,h.ag0];unfold Sn cT az Lb iU
 try dsimp only
 rw[au,ao,Za];cases decide (k>=2)<;>rfl
theorem Z9 {a b:Nat} (h:a<=b) (K:M Y):aA (Nat.ble a b) K=K:=Zc (gO h) K
def uk (x:jz):aj:=bB (bM x.br.key) 8++bB (bM x.br.value) 8++bB (bM x.br.slot) 4++bB (bM x.br.gen) 4++dJ x.kids
def oU (x:jz):aj:=gK 1 x.kids.length (uk x)
theorem Zmc (n:Nat) (x:jz) (z:Nat) (p:ai) (st:St) (hz:z=1\/p=none) (hs:Sl st p (ints x.kids)) (hl:x.kids.length<1000) (hn:2400<=n:=by omega):
  Ok (λo=>∃s',o=(.val [.str (oU x)],s')/\aB st s') (run Bd n 250 [.agg (pY x z p)] st):=by
 obtain⟨n,rfl⟩: ∃k,n=k+2:=⟨n-2,AC⟩;rw[Ze,h.agZ];unfold Uc F4 lV DE uL jM vQ Zo ZF qW Ls fF pY fJ;simp only[oo,gR];rw[cX];simp only[au,Zh 1 z p _ hz,ao,Gm];refine Ok.cx (uO (n+1) _ 8 (tF _) st) λs1 aH=>?_
 rw[bZ,ao];refine Ok.cx (uO (n+1) _ 8 (tF _) s1) λs2 bd=>?_
 rw[bZ,ao,Z9 (by rw[Zr,Zr];omega)];refine Ok.cx (uO (n+1) _ 4 (tF _) s2) λs3 dh=>?_
 rw[bZ,ao,Z9 (by rw[ba,Zr,Zr,Zr];omega)];refine Ok.cn (uO (n+1) _ 4 (tF _) s3) λs4 hJ=>?_
 rw[bZ,ao,Z9 (by rw[ba,ba,Zr,Zr,Zr,Zr];omega),Za];have hP:=((aH.trans bd).trans dh).trans hJ;have⟨A,hA⟩: ∃A,bB (bM x.br.key) 8++bB (bM x.br.value) 8++bB (bM x.br.slot) 4++bB (bM x.br.gen) 4=A:=⟨_,rfl⟩;have iX:A.length=24:=by rw[<-hA];simp[Zr]
 rw[hA];refine Zj _ (λq y s=>∃i:Nat,y=[.str (A++dJ (x.kids.take i)),.i (i:Int)]/\i<=x.kids.length/\x.kids.length-i<=q/\aB st s) ?_ x.kids.length (n+1) _ _ ⟨0,by rw[List.take_zero];show _=[DV.str (A++[]),_];rw[fP];rfl,cN _,AC,hP⟩ AC;rintro q _ s ⟨i,rfl,hi,hq,iZ⟩ rec aN;rw[bZ,au,ao];by_cases av:i<x.kids.length
 .have dR:=hs.mono iZ
  obtain⟨i1,o1,rfl⟩:=dR.cS (by simp[ints];omega);rw[aR,bh,Zc (Zi av),bn,dR.dX (ZJ av),bg];refine Ok.cv (uO (n+1) _ 2 (tF _) s) λs5 nC=>?_
  rw[bZ,ao,Z9 (by rw[ba,pF,Zr,cB,iX];omega),Zb];refine aN (x.kids.length-(i+1)) _ _ AC ⟨i+1,by rw[ID _ av,dL];rfl,AC,aJ _,iZ.trans nC⟩
 .rw[aU]
  rw[dG AC];refine Ok.cv (BV (n+1) 1 x.kids.length (A++dJ x.kids) (by rw[ba,pF];omega) s (by rw[ba,pF];omega)) λs5 nC=>?_
  rw[bZ,ao,Zd];refine .mk ⟨s5,?_,iZ.trans nC⟩;unfold oU uk;rw[hA]
def oW (x:aX):Bool:= !(decide (x.gen<0)||decide (x.gen>4294967295))&&(bif x.live then decide (x.gen>0)&&iU x.block else(decide (x.block>=0)&&decide (x.block<=1792))&&(!(x.gen==0)||x.block==0))
theorem ZrT (n:Nat) (x:aX) (st:St):run Bd (n+2) 252 [.agg (eZ x)] st=some (.val [.bool (oW x)],st):=by
 rw[Ze,h.ag1];unfold Tm se az bF Lb Li oW eZ
 try dsimp only
 rw[cX];simp only[ar,au,ao,Za];have e0:=Im n x.block st;cases decide (x.gen<0)with
 |true=>rfl
 |false=>
 cases decide (x.gen>4294967295)with
 |true=>rfl
 |false=>
 simp only[af,Bool.or_self,bD,dt];cases x.live
 .rw[af];cases decide (x.block>=0)
  .rfl
  .rw[ae,dt];cases decide (x.block<=1792)
   .rfl
   .rw[ae,dt];cases(x.gen==0)with
    |true=>rfl
    |false=>rfl
 .rw[ae];cases decide (x.gen>0)
  .rfl
  .rw[ae,Zk e0];rfl
def Z3:List aX->aj
 |[]=>[]
 |x::r=>bB (bM x.gen) 4++bB (bM x.block) 4++Z3 r
def gy:Nat->List aX->Nat
 |_,[]=>0
 |k,x::r=>(bif x.live then 2^k else 0)+gy (k+1) r
theorem IF: ∀l:List aX,(Z3 l).length=8*l.length
 |[]=>rfl
 |x::r=>by rw[Z3,ba,ba,Zr,Zr,IF r,cQ];omega
theorem Uh: ∀l m:List aX,Z3 (l++m)=Z3 l++Z3 m
 |[],m=>rfl
 |x::r,m=>by rw[oo,Z3,Z3,Uh r m,<-dL]
theorem Zq7: ∀(k:Nat) (l m:List aX),gy k (l++m)=gy k l+gy (k+l.length) m
 |k,[],m=>by simp[gy]
 |k,x::r,m=>by rw[oo,gy,gy,Zq7 (k+1) r m,cQ,show k+1+r.length=k+(r.length+1) by omega,vI]
theorem V7: ∀(k:Nat) (l:List aX),gy k l+2^k<=2^(k+l.length)
 |k,[]=>by simp[gy]
 |k,x::r=>by
  have:=V7 (k+1) r;rw[gy,cQ,show k+(r.length+1)=k+1+r.length by omega];grind
def qo (l:List aX):Option (aj):=bif l.all oW then some (gK 2 (gy 0 l:Nat) (Z3 l))else none
def zS:Option (aj)->ah
 |some s=>[.str s,.bool true]
 |none=>[.str [],.bool false]
theorem Zlz (n:Nat) (l:List aX) (hl:l.length=7) (st:St) (hn:400<=n:=by omega):
  Ok (λo=>∃s',o=(.val (zS (qo l)),s')/\aB st s') (run Bd n 219 [.agg (bX l)] st):=by
 obtain⟨n,rfl⟩: ∃k,n=k+3:=⟨n-3,AC⟩;have⟨R,hR⟩: ∃R,qo l=R:=⟨_,rfl⟩;rw[hR];unfold qo at hR;rw[Ze,h.agw];unfold Tb qV jM jx bF qg lV DE qW xd ZF Ah Li fF
 try dsimp only
 have cU:(bX l).length=21:=by rw[ZE,hl]
 rw[cX,bN cU,ao,bN cU,Za];refine Zj _ (λq y s=>∃i:Nat,y=[.str (Z3 (l.take i)),.i ((gy 0 (l.take i):Nat):Int),.i (i:Int)]/\i<=7/\7-i<=q/\aB st s/\(l.take i).all oW=true) ?_ 7 (n+2) _ _ ⟨0,rfl,cN _,AC,.refl st,rfl⟩ AC;rintro q _ s ⟨i,rfl,hi,hq,iZ,dH⟩ rec aN;simp only[bZ,au,ao];by_cases av:i<7
 .have vv:i<l.length:=AC
  have hY:l.take (i+1)=l.take i++[l[i]]:=Do
  have oi:l[i]? =some l[i]:=cc vv;have CK:((bX l).drop (i*3)).take 3=eZ l[i]:=Na oi;rw[aR,Zc (show aO (i:Int) 7=true from Zi av),bn,Z9 AC,CK];have iL:l[i]∈l:=jj vv;generalize l[i]=x at hY iL;rw[bN (cs:=eZ x) (n:=3) rfl,Zk (ZrT n x s),ar,ao];cases hx:oW x
  .rw[bD,ae,Zd];have cC:l.all oW=false:=by
    rw[List.all_eq_false];grind
   rw[cC,af]at hR;rw[<-hR];exact .mk ⟨s,rfl,iZ⟩
  .rw[bI,af];unfold eZ;rw[iI (d:= .bool x.live) rfl,uI];have rG:=V7 0 (l.take i);rw[cB,pA AC,fq]at rG;have h7:2^i<=2^7:=pB EQ AC;have aiq:(l.take (i+1)).all oW=true:=by rw[hY,uC,dH];simp[hx]
   refine Ok.join λaG mU=>?_
   have hA:Ok (λo=>∃s',o=(.val (zS R),s')/\aB st s') (aG [.i ((gy 0 (l.take (i+1)):Nat):Int)] s):=by
    rw[mU];simp only[au,ao];rw[iI (d:= .i x.gen) rfl];simp only[bg,Gm];refine Ok.cx (uO (n+2) _ 4 (tF _) s) λs1 aH=>?_
    rw[bZ,ao];have dR:=IF (l.take i);rw[cB]at dR;rw[Z9 (by rw[dR,Zr];omega),iI (d:= .i x.block) rfl,bg];refine Ok.cn (uO (n+2) _ 4 (tF _) s1) λs2 bd=>?_
    rw[bZ,ao,Z9 (by rw[ba,dR,Zr,Zr];omega),Zb];refine aN (7-(i+1)) _ _ AC ⟨i+1,?_,AC,aJ _,(iZ.trans aH).trans bd,aiq⟩;rw[hY,Uh];simp[Z3]
   have aaE:gy 0 (l.take (i+1))=gy 0 (l.take i)+(bif x.live then 2^i else 0):=by
    rw[hY,Zq7,cB,pA AC,fq];simp[gy]
   cases eQ:x.live
   .rw[eQ,af]at aaE;have akd:gy 0 (l.take i)=gy 0 (l.take (i+1)):=aaE.symm;rw[af,akd];exact hA
   .rw[eQ,ae]at aaE;rw[ae,Zc (aQ AC),pA AC];have e1:aq (1*2^i)=((2^i:Nat):Int):=by
     rw[Int.one_mul,show((2:Int)^i)=((2^i:Nat):Int) by push_cast;rfl];exact Zb
    rw[e1,Zb];grind
 .rw[aU]
  rw[dG AC]at dH⊢;rw[dH,ae]at hR;have dR:=IF l;refine Ok.cv (BV (n+2) 2 (gy 0 l:Nat) (Z3 l) AC s) λs1 aH=>?_
  rw[bZ,ao,Zd,<-hR];exact .mk ⟨s1,rfl,iZ.trans aH⟩
def mM (l:ak):Option (aj):=bif l.all λk=>k==0||iU k then some (gK 3 0 (dJ l))else none
theorem S9 (n:Nat) (l:ak) (hl:l.length=16) (st:St) (hn:400<=n:=by omega):
  Ok (λo=>∃s',o=(.val (zS (mM l)),s')/\aB st s') (run Bd n 218 [.agg (ints l)] st):=by
 obtain⟨n,rfl⟩: ∃k,n=k+3:=⟨n-3,AC⟩;have⟨R,hR⟩: ∃R,mM l=R:=⟨_,rfl⟩;rw[hR];unfold mM at hR;rw[Ze,h.agv];unfold TO uL jM vQ az bF qW xd ZF fF Li Lb Ls
 try dsimp only
 have cU:(ints l).length=16:=by simp[ints,hl]
 rw[cX,bN cU,ao,bN cU,Za];refine Zj _ (λq y s=>∃i:Nat,y=[.str (dJ (l.take i)),.i (i:Int)]/\i<=16/\16-i<=q/\aB st s/\((l.take i).all λk=>k==0||iU k)=true) ?_ 16 (n+2) _ _ ⟨0,rfl,cN _,AC,.refl st,rfl⟩ AC;rintro q _ s ⟨i,rfl,hi,hq,iZ,dH⟩ rec aN;rw[bZ,au,ao];by_cases av:i<16
 .have vv:i<l.length:=AC
  have hY:l.take (i+1)=l.take i++[l[i]]:=Do
  have Hv:(ints l)[i*1]? =some (.i l[i]):=by rw[cR];exact ZJ vv
  have iL:l[i]∈l:=jj vv;have Ko:=ID l vv;have YQ:aO (i:Int) 16=true:=Zi av;rw[aR,bn,Zc YQ,iI Hv,bg];generalize l[i]=x at hY Hv iL Ko;refine Ok.join λaG mU=>?_
  have cC:(x==0||iU x)=false->Ok (λo=>∃s',o=(.val (zS R),s')/\aB st s') ((aw [.str (bs []),.bool false]:M ah) s):=λe=>by
   have cC:(l.all λk=>k==0||iU k)=false:=by
    rw[List.all_eq_false];grind
   rw[cC,af]at hR;rw[<-hR,Zd];exact .mk ⟨s,rfl,iZ⟩
  have ad1:(x==0||iU x)=true->Ok (λo=>∃s',o=(.val (zS R),s')/\aB st s') (aG [.bool false] s):=λe=>by
   rw[mU];simp only[ar,ao];rw[af,Zc YQ,iI Hv,bg,Gm];refine Ok.cv (uO (n+2) _ 2 (tF _) s) λs1 aH=>?_
   rw[bZ,ao,Z9 (by rw[pF,Zr,cB];omega),Zb];refine aN (16-(i+1)) _ _ AC ⟨i+1,by rw[Ko];rfl,AC,aJ _,iZ.trans aH,?_⟩;rw[hY,uC,dH];simpa using e
  cases h0:(x==0)
  .rw[bD,ae,Zc YQ,iI Hv,bg,Zk (Im (n+1) x s),ar,ao];cases hb:iU x
   .rw[mU];simp only[ar,ao,bD,ae];grind
   .grind
  .rw[bI,af];grind
 .rw[aU]
  rw[dG AC]at dH⊢;rw[dH,ae]at hR;have dR:=pF l;refine Ok.cv (BV (n+2) 3 0 (dJ l) AC s) λs1 aH=>?_
  rw[bZ,ao,Zd,<-hR];exact .mk ⟨s1,rfl,iZ.trans aH⟩
def pZ (x:ZL):aj:=gK 5 x.name.length (bB (bM x.mask) 4++dJ x.cF++x.name)
theorem Zmf (n:Nat) (x:ZL) (hl:x.cF.length=12) (hm:x.name.length<60000) (st:St) (hn:x.name.length+500<=n):
  Ok (λo=>∃s',o=(.val [.str (pZ x)],s')/\aB st s') (run Bd n 216 [.agg (Z0 x)] st):=by
 obtain⟨n,rfl⟩: ∃k,n=k+3:=⟨n-3,AC⟩;rw[Ze,h.agt];unfold TL jM uL vQ ZF qW Ls fF Z0
 try dsimp only
 have cU:(ints x.cF).length=12:=by simp[ints,hl]
 rw[cX,bZ,au,bN cU,ao,bN (n:=14) (by simp[cU])];simp only[Gm];refine Ok.cv (uO (n+2) _ 4 (tF _) st) λs0 pU=>?_
 rw[bZ,ao,Za];have hA:(bB (bM x.mask) 4).length=4:=Zr _ _;unfold pZ;generalize bB (bM x.mask) 4=A at hA;refine Zj _ (λq y s=>∃i:Nat,y=[.str (A++dJ (x.cF.take i)),.i (i:Int)]/\i<=12/\12-i<=q/\aB st s) ?_ 12 (n+2) _ _ ⟨0,by rw[List.take_zero];show _=[DV.str (A++[]),_];rw[fP];rfl,cN _,AC,pU⟩ AC;rintro q _ s ⟨i,rfl,hi,hq,iZ⟩ rec aN;simp only[bZ,au,ao];by_cases av:i<12
 .have vv:i<x.cF.length:=AC
  have Hv:(ints x.cF)[i*1]? =some (.i x.cF[i]):=by rw[cR];exact ZJ vv
  rw[aR,bn,Zc (show aO (i:Int) 12=true from Zi av),iI Hv,bg];refine Ok.cv (uO (n+2) _ 2 (tF _) s) λs1 aH=>?_
  rw[bZ,ao,Z9 (by rw[ba,hA,pF,Zr,cB];omega),Zb];exact aN (12-(i+1)) _ _ AC ⟨i+1,by rw[ID _ vv,dL];rfl,AC,aJ _,iZ.trans aH⟩
 .rw[aU]
  rw[dG AC];have dR:=pF x.cF;rw[Z9 (by rw[ba];omega)];refine Ok.cv (BV (n+2) 5 x.name.length (A++dJ x.cF++x.name) (by rw[ba,ba];omega) s (by rw[ba,ba];omega)) λs1 aH=>?_
  rw[bZ,ao,Zd];exact .mk ⟨s1,rfl,iZ.trans aH⟩
def rj:ak->Nat->Bool
 |_l,0=>true
 |l,i+1=>rj l i&&(iU (l.getD i 0)&& !decide (l.getD i 0∈l.take i))
def sf (l:ak):Option (aj):=bif decide (1<=l.length)&&(decide (l.length<=16)&&rj l l.length)then some (gK 6 l.length (dJ l))else none
theorem Zty {l:ak} : ∀ {i j:Nat},i<=j->rj l j=true->rj l i=true
 |i,0,h,e=>by
  grind
 |i,j+1,h,e=>by
  by_cases oI:i=j+1
  .subst oI;exact e
  .unfold rj at e
   rw[aS]at e;exact Zty AC e.1
theorem ZmN (n:Nat) (l:ak) (z:Nat) (p:ai) (st:St) (hz:z=1\/p=none) (hs:Sl st p (ints l)) (hl:l.length<1000:=by omega) (hn:2500<=n:=by omega):
  Ok (λo=>∃s',o=(.val (zS (sf l)),s')/\aB st s') (run Bd n 215 [.slice z p l.length] st):=by
 obtain⟨n,rfl⟩: ∃k,n=k+3:=⟨n-3,AC⟩;have⟨R,hR⟩: ∃R,sf l=R:=⟨_,rfl⟩;rw[hR];unfold sf at hR;rw[Ze,h.ags];unfold T8 ck az uL jM vQ Zo bF Q_ dj xd qW fF Li ZF Ls Lb
 try dsimp only
 rw[Zh 1 z p _ hz,ao,Za];have nE: ∀s,aB st s->R=none->Ok (λo=>∃s',o=(.val (zS R),s')/\aB st s') ((aw [.str (bs []),.bool false]:M ah) s):=λs iZ e=>by
  rw[e,Zd];exact .mk ⟨s,rfl,iZ⟩
 by_cases h1:1<=l.length;rotate_left
 .rw[aR]
  simp only[ar,ao,ae];refine nE st (.refl st) ?_;rw[bP h1,gF,af]at hR;exact hR.symm
 by_cases qB:l.length<=16;rotate_left
 .rw[aU,aQ (AC:(l.length:Int)>16)]
  simp only[ar,ao,ae];refine nE st (.refl st) ?_;rw[bP qB,gF,Bz,af]at hR;exact hR.symm
 rw[aQ h1,aQ qB,dt,dt]at hR;rw[aU,bP (AC:¬(l.length:Int)>16)];simp only[ar,ao];rw[af,Za];have ajd: ∀i,i<=l.length->rj l i=false->R=none:=λi hi e=>by
  cases hf:rj l l.length
  .rw[hf,af]at hR;exact hR.symm
  .rw[Zty hi hf]at e;cases e
 refine Zj _ (λq y s=>∃i:Nat,y=[.str (dJ (l.take i)),.i (i:Int)]/\i<=l.length/\l.length-i<=q/\aB st s/\rj l i=true) ?_ l.length (n+2) _ _ ⟨0,rfl,cN _,AC,.refl st,rfl⟩ AC;rintro q _ s ⟨i,rfl,hi,hq,iZ,dH⟩ rec aN;rw[bZ,au,ao];by_cases av:i<l.length
 .have dR:=hs.mono iZ
  obtain⟨i1,o1,rfl⟩:=dR.cS (by simp[ints];omega);have zg:l.getD i 0=l[i]:=by rw[cz,cc av];rfl
  have Ko:=ID l av;have fG:rj l (i+1)=(iU l[i]&& !decide (l[i]∈l.take i)):=by
   show(rj l i&&_)=_;rw[dH,dt,zg]
  have da:(ints l)[i]? =some (.i l[i]):=ZJ av;rw[aR,Za,bh,Zc (Zi av),bn,dR.dX da,bg];have⟨x,hx⟩: ∃x,l[i]=x:=⟨_,rfl⟩;rw[hx]at da Ko fG⊢;rw[Zk (Im (n+1) x s),ar,ao];cases hb:iU x
  .rw[bD,ae];grind
  .rw[bI,af,Za];refine Zj _ (λq y t=>∃k:Nat,y=[.i (k:Int)]/\k<=i/\i-k<=q/\t=s/\x∉l.take k) ?_ i (n+2) _ _ Fd AC;rintro q2 _ t ⟨k,rfl,hk,HC,rfl,rz⟩ dP mW;simp only[au,ao];by_cases hlk:k<i
   .have jR:k<l.length:=AC
    have wA:(ints l)[k]? =some (.i l[k]):=ZJ jR;rw[aR,bh,Zc (Zi jR),bn,dR.dX wA,bg,bh,Zc (Zi av),dR.dX da,bg];by_cases he:l[k]=x
    .rw[show(l[k]==x)=true by rw[he];grind,ae]
     refine nE t iZ (ajd (i+1) AC ?_);have:x∈l.take i:=by
      rw[<-he];exact List.mem_take_iff_getElem.2 ⟨k,AC,rfl⟩
     rw[fG,aQ this,bI,Bz]
    .rw[show(l[k]==x)=false from dM.2 he,af,Zb]
     refine mW (i-(k+1)) _ _ AC ⟨k+1,rfl,AC,aJ _,rfl,?_⟩;rw[oq jR];grind
   .rw[aU]
    have:k=i:=AC
    subst this;rw[bh,Zc (Zi av),dR.dX da,bg,Gm];refine Ok.cv (uO (n+2) _ 2 (tF _) t) λs1 aH=>?_
    rw[bZ,ao,Z9 (by rw[pF,Zr,cB];omega),Zb];exact aN (l.length-(k+1)) _ _ AC ⟨k+1,by rw[Ko];rfl,AC,aJ _,iZ.trans aH,by rw[fG,hb,bP rz];rfl⟩
 .rw[aU]
  have:i=l.length:=AC
  subst this;rw[rQ];rw[dH,ae]at hR;have dR:=pF l;refine Ok.cv (BV (n+2) 6 l.length (dJ l) AC s) λs1 aH=>?_
  rw[bZ,ao,Zd,<-hR];exact .mk ⟨s1,rfl,iZ.trans aH⟩
theorem Sm (n a e:Nat) (ha:a<100000) (he:0<e) (ze:e<1000) (st:St) (hn:a+10<=n:=by omega):
  Ok (λo=>o=(.val [.i (((a+e-1)/e:Nat):Int)],st)) (run Bd n 220 [.i (a:Int),.i (e:Int)] st):=by
 obtain⟨n,rfl⟩: ∃k,n=k+2:=⟨n-2,AC⟩;rw[Ze,h.agx];unfold To jx qg dj Li;simp only[au,ao,Za];have hm:(a+e-1)/e<=a:=by
  rcases BF a with h0|h0
  .subst h0
   rw[fq,Nat.div_eq_of_lt AC];exact aJ _
  .refine Nat.div_le_of_le_mul ?_
   have:1*(e-1)<=a*(e-1):=FI _ h0;have h2:e*a=a+a*(e-1):=by
    obtain⟨f,rfl⟩: ∃f,e=f+1:=⟨e-1,AC⟩;rw[Nat.add_sub_cancel,w8,Nat.one_mul,BG f];omega
   omega
 have adk: ∀k,k*e<a↔k<(a+e-1)/e:=λk=>by
  rw[Nat.lt_iff_add_one_le,Nat.lt_iff_add_one_le,Nat.le_div_iff_mul_le he,w8,Nat.one_mul];omega
 generalize (a+e-1)/e=m at hm adk;refine Zj _ (λq y s=>∃k:Nat,y=[.i (k:Int)]/\k<=m/\m-k<=q/\s=st) ?_ m (n+1) _ _ Fd AC;rintro q _ s ⟨k,rfl,hk,hq,rfl⟩ rec aN;rw[au,ao];have hke:k*e<=100000*1000:=Nat.mul_le_mul AC AC;have hw:aq ((k:Int)*(e:Int))=((k*e:Nat):Int):=by
  rw[show((k:Int)*(e:Int))=((k*e:Nat):Int) by push_cast;rfl];exact Zb
 rw[hw];have:=adk k;by_cases av:k*e<a
 .rw[aR,Zb]
  exact aN (m-(k+1)) _ _ AC Fd
 .rw[aU]
  have jR:k=m:=by
   omega
  rw[jR,Zd];exact .mk rfl
theorem Zjl (n a:Nat) (s g:Int) (ha:a<100000) (st:St) (hn:a+20<=n:=by omega):
  Ok (λo=>o=(.val [.i (((a+383)/384:Nat):Int)],st)) (run Bd n 196 [.agg [.i (a:Int),.i s,.i g]] st):=by
 obtain⟨n,rfl⟩: ∃k,n=k+2:=⟨n-2,AC⟩;rw[Ze,h.agc];unfold RO D1 cK gG Li
 try dsimp only
 rw[cX,au,ao];refine Ok.call (Sm (n+1) a 384 ha EQ EQ st) ?_;rintro _ rfl;refine⟨_,st,rfl,?_⟩;rw[au,ao,Zd];exact .mk rfl
theorem Zji (n a:Nat) (ha:a<100000) (st:St) (hn:a+20<=n:=by omega):
  Ok (λo=>o=(.val [.i (((a+6)/7:Nat):Int)],st)) (run Bd n 266 [.i (a:Int)] st):=by
 obtain⟨n,rfl⟩: ∃k,n=k+2:=⟨n-2,AC⟩;rw[Ze,h.ahd];unfold RW cT cK gG Li
 try dsimp only
 rw[au,ao];refine Ok.call (Sm (n+1) a 7 ha EQ EQ st) ?_;rintro _ rfl;refine⟨_,st,rfl,?_⟩;rw[au,ao,Zd];exact .mk rfl
def qy (a:Nat):Nat:=if a=0 then 0 else((a+6)/7+15)/16+1
theorem Zsf (n a:Nat) (ha:a<100000) (st:St) (hn:a+40<=n):
  Ok (λo=>o=(.val [.i (qy a:Int)],st)) (run Bd n 268 [.i (a:Int)] st):=by
 obtain⟨n,rfl⟩: ∃k,n=k+2:=⟨n-2,AC⟩;rw[Ze,h.ahf];unfold Tg cT cK Li gG qy
 try dsimp only
 rw[au,ao];by_cases h0:a=0
 .subst h0
  rw[bx rfl];exact .mk rfl
 .rw[aY h0,show((a:Int)==0)=false from dM.2 AC,af]
  refine Ok.call (Zji (n+1) a ha st) ?_;rintro _ rfl;refine⟨_,st,rfl,?_⟩;rw[au,ao];refine Ok.call (Sm (n+1) ((a+6)/7) 16 AC EQ EQ st) ?_;rintro _ rfl;refine⟨_,st,rfl,?_⟩;rw[au,ao,Zd];refine .mk ?_;rw[Zb];rfl
theorem or8 {x:Nat} (hx:x<256) (hy:y<256):bits .or .u8 (x:Int) (y:Int)=((x|||y:Nat):Int):=by
 show IntKind.wrap .u8 ((BitVec.ofInt 8 (x:Int)|||BitVec.ofInt 8 (y:Int)).toNat:Int)=_;have e: ∀z:Nat,z<256->(BitVec.ofInt 8 (z:Int)).toNat=z:=Do
 rw[BitVec.toNat_or,e x hx,e y hy];have h:x|||y<256:=Fd
 show((x|||y:Nat):Int)%256=_;omega
def yD (b:aj) (k:Nat):aj:=b.set (k/8) (UInt8.ofNat ((b.getD (k/8) 0).toNat|||2^(k%8)))
theorem M8 (b:aj) (k:Nat):(yD b k).length=b.length:=by simp[yD]
def inPlace (p:Nat) (x:Int):Bool:=decide (x>=((384*p:Nat):Int))&&decide (x<((384*p+384:Nat):Int))
def tJ (p:Nat):aj->ak->aj
 |b,[]=>b
 |b,x::r=>tJ p (bif inPlace p x then yD b (x-((384*p:Nat):Int)).toNat else b) r
def gI (p:Nat) (l:ak):ZS:=⟨p,tJ p (List.replicate 48 0) l⟩
theorem Gc (p:Nat): ∀(l:ak) (b:aj),(tJ p b l).length=b.length
 |[],_=>rfl
 |x::r,b=>by
  unfold tJ;rw[Gc p r];cases inPlace p x
  .rfl
  .exact M8 b _
theorem ZzM (b:aj) (k:Nat) (c:UInt8):bT (b.set k c)=(bT b).set k (.u c.toNat):=by
 simp[bT]
theorem Zr5 (n p:Nat) (l:ak) (a:ai) (z:Nat) (st:St) (hz:z=1\/a=none) (hs:Sl st a (ints l)) (hp:p<1000) (hl:l.length<100000) (hx: ∀x∈l,0<=x/\x<1000000) (hn:l.length+10<=n):
  Ok (λo=>o=(.val [.agg (ZZ (gI p l))],st)) (run Bd n 192 [.i (p:Int),.slice z a l.length] st):=by
 obtain⟨n,rfl⟩: ∃k,n=k+2:=⟨n-2,AC⟩;rw[Ze,h.af8];unfold Tu ck cT Zo az lA Lb
 try dsimp only
 rw[au,Zh 1 z a _ hz,ao,Za];have cL:aq (384*(p:Int))=((384*p:Nat):Int):=by
  rw[show(384*(p:Int))=((384*p:Nat):Int) by omega];exact Zb
 have gB:aq (((384*p:Nat):Int)+384)=((384*p+384:Nat):Int):=by
  rw[Zb];omega
 rw[cL,gB];have⟨G,hG⟩: ∃G,tJ p (List.replicate 48 0) l=G:=⟨_,rfl⟩;have hR:gI p l=⟨p,G⟩:=by unfold gI;rw[hG]
 rw[hR];refine Zj _ (λq y s=>∃(i:Nat) (b:aj),y=[.agg (.i (p:Int)::bT b),.i (i:Int)]/\i<=l.length/\l.length-i<=q/\s=st/\b.length=48/\tJ p b (l.drop i)=G) ?_ l.length (n+1) _ _ ⟨0,List.replicate 48 0,rfl,cN _,AC,rfl,pw,hG⟩ AC;rintro q _ s ⟨i,b,rfl,hi,hq,rfl,hb,aL⟩ rec aN;have iz:(bT b).length=48:=by rw[Zw,hb]
 rw[cX];simp only[au,ao];rw[bN iz];by_cases av:i<l.length
 .obtain⟨i1,o1,rfl⟩:=hs.cS (by simp[ints];omega)
  have da:(ints l)[i]? =some (.i l[i]):=ZJ av;have gr:l.drop i=l[i]::l.drop (i+1):=iR av;have iL:l[i]∈l:=jj av;rw[gr]at aL;have⟨x,P0⟩: ∃x,l[i]=x:=⟨_,rfl⟩;rw[P0]at da aL iL;have⟨Bi,oN⟩:=hx x iL;unfold tJ at aL;rw[aR,bh,Zc (Zi av),bn,hs.dX da,bg];have kY:aq ((i:Int)+1)=((i+1:Nat):Int):=Zb;rw[kY];refine Ok.join λaG mU=>?_
  have hA: ∀c,inPlace p x=c->Ok (λo=>o=(.val [.agg (ZZ ⟨p,G⟩)],s)) (aG [.bool c] s):=by
   intro c hc;rw[mU];simp only[ar,ao];rw[hc]at aL;rw[Za];cases c
   .rw[af]at aL;rw[af];show Ok _ (bp [.agg (.i (p:Int)::bT b)] _ s);rw[cX,au,bN iz,ao];exact aN (l.length-(i+1)) _ _ AC Fd
   .rw[ae]at aL;unfold inPlace at hc;rw[aS,bq,bq]at hc;have⟨k,hk⟩: ∃k:Nat,x-((384*p:Nat):Int)=(k:Int):=Fd
    rw[hk,bn]at aL;have K7:aq (x-((384*p:Nat):Int))=(k:Int):=by rw[hk];exact Zb
    have hdv:aq ((k:Int).tdiv 8)=((k/8:Nat):Int):=by
     rw[show(k:Int).tdiv 8=((k/8:Nat):Int)from rfl];exact Zb
    have mm:(k:Int).tmod 8=((k%8:Nat):Int):=rfl;rw[ae,bh,Zc (Zi av),hs.dX da];simp only[bg,K7,hdv,mm,bn];have hk8:k/8<48:=AC
    have AW:b[k/8]? =some (b.getD (k/8) 0):=by
     rw[cz,cc AC];rfl
    have J4:=(b.getD (k/8) 0).toNat_lt;rw[Zc (show aO ((k/8:Nat):Int) 48=true from Zi hk8),iI (i:=k/8*1) (by rw[cR];exact VX AW),bg,Zc (aQ AC),Zc (show aO ((k/8:Nat):Int) 48=true from Zi hk8),Z9 AC];have h28:2^(k%8)<=2^7:=pB EQ AC;have KY:IntKind.wrap .u8 (1*2^(min (k%8) 8))=((2^(k%8):Nat):Int):=by
     rw[pA AC,Int.one_mul,show((2:Int)^(k%8))=((2^(k%8):Nat):Int) by push_cast;rfl];generalize 2^(k%8)=w at h28;show(w:Int)%256=_;omega
    rw[KY,or8 J4 AC];have hor:(b.getD (k/8) 0).toNat|||2^(k%8)<256:=Nat.or_lt_two_pow (n:=8) J4 AC;have dy:cG (bT b) (k/8*1) [.u (((b.getD (k/8) 0).toNat|||2^(k%8):Nat):Int)]=bT (yD b k):=by
     rw[cR,B6 _ _ _ AC];unfold yD;rw[ZzM];congr 2;show _=(((((b.getD (k/8) 0).toNat|||2^(k%8))%256:Nat)):Int);omega
    rw[dy];show Ok _ (bp [.agg (.i (p:Int)::bT (yD b k))] _ s);rw[cX,au];have Hy:(bT (yD b k)).length=48:=by rw[Zw,M8,hb]
    rw[bN Hy,ao];exact aN (l.length-(i+1)) _ _ AC ⟨i+1,yD b k,rfl,AC,aJ _,rfl,by rw[M8,hb],aL⟩
  cases mT:decide (x>=((384*p:Nat):Int))
  .rw[af];exact hA false (by unfold inPlace;rw[mT,gF])
  .rw[ae,bh,Zc (Zi av),hs.dX da,bg];exact hA _ (by unfold inPlace;rw[mT,dt])
 .rw[aU]
  rw[lx AC]at aL;rw[cX,au,bN iz,ao,bN (by simp[iz]),Zd];refine .mk ?_;rw[<-aL];rfl
def uQ (x:ZS):aj:=gK 4 x.no x.fu
theorem ZtZ (n:Nat) (x:ZS) (hl:x.fu.length=48) (st:St) (hn:400<=n):
  Ok (λo=>∃s',o=(.val [.str (uQ x)],s')/\aB st s') (run Bd n 193 [.agg (ZZ x)] st):=by
 obtain⟨n,rfl⟩: ∃k,n=k+2:=⟨n-2,AC⟩;rw[Ze,h.af9];unfold T9 Zm jM qW Ls ZZ
 try dsimp only
 have iz:(bT x.fu).length=48:=by rw[Zw,hl]
 rw[cX,au,bN iz,ao,bN (n:=49) (by simp[iz]),ZD,Zn (i:=st.length) (f:=false) (all:= .i x.no::bT x.fu) (d:= .i x.no) Do rfl,bg];have dH:(DV.int .i64 x.no::bT x.fu).length=49:=by simp[iz]
 rw[Ja (by rw[dH];omega),Ja (by rw[dH];omega)];have Hf:(List.drop 1 (DV.int .i64 x.no::bT x.fu)).take 48=Z6 x.fu:=by
  rw[List.drop_succ_cons,dF,dG AC,qi]
 rw[Hf,uJ];refine Ok.cv (BV (n+1) 4 x.no x.fu AC _) λs1 aH=>?_
 rw[bZ,ao,Zd];exact .mk ⟨s1,rfl,(aB.new _ _).trans aH⟩
structure ox (x:cm):Prop where
 s0:1<=x.seq
 s1:x.seq<=4611686018427387904
 g:qA x.blocks x.cW x.g=true
 u0:0<=x.used
 u1:x.used<=x.cW
 f0:0<=x.free
 f1:x.free<=x.used
 t0:x.used=0->x.bY=0
 t1:0<x.used->oT x x.bY=true
 d:x.dir≠0->oT x x.dir=true
 len:(x.aK.length:Int)=Ax x.blocks x.cW x.g
 ch: ∀i,i<x.aK.length->oT x (x.aK.getD i 0)=true/\x.aK.getD i 0∉x.aK.take i
theorem ZtD (x:cm):rZ x=true↔ ∀i,i<x.aK.length->oT x (x.aK.getD i 0)=true/\x.aK.getD i 0∉x.aK.take i:=by
 simp[rZ]
theorem xk (x:cm):ZP x=true↔ox x:=by
 unfold ZP;rw[aS,aS,ZtD,kN,kN];simp only[yf,tp,L8];constructor
 .rintro⟨⟨a1,a2,a3,a4,a5,a6,a7⟩,⟨b1,b2,b3,b4⟩,c⟩
  refine⟨AC,AC,a3,AC,AC,AC,AC,λh=>?_,λh=>?_,λh=>?_,?_,c⟩
  .rw[h]at b1
   simpa using b1
  .rw[aR h]at b2
   simpa using b2
  .rw[show(x.dir==0)=false from dM.2 h,bD,ae]at b3
   simpa using b3
  .simpa using b4
 .intro h
  refine⟨⟨by have:=h.s0;omega,by have:=h.s1;omega,h.g,by have:=h.u0;omega,by have:=h.u1;omega,by have:=h.f0;omega,by have:=h.f1;omega⟩,⟨?_,?_,?_,?_⟩,h.ch⟩
  .by_cases hu:x.used=0
   .rw[h.t0 hu];cases(x.used==0)<;>rfl
   grind
  .by_cases hu:0<x.used
   .rw[h.t1 hu];cases decide (x.used>0)<;>rfl
   grind
  .by_cases hu:x.dir=0
   .rw[hu];rfl
   .rw[h.d hu];cases(!(x.dir==0))<;>rfl
  simp[h.len]
theorem DY (x:cm) (k:Int):oT x k=true↔2<=k/\k<x.blocks:=by
 simp[oT]
theorem Ui {b s g:Int} (h:qA b s g=true):Ax b s g=(((b.toNat+383)/384:Nat):Int):=by
 have⟨g1,g2,_⟩:=ZM h;unfold Ax p9;rw[h,ae];obtain⟨m,rfl⟩: ∃m:Nat,b=m:=⟨b.toNat,AC⟩;rw[bn,Zb (x:=(m:Int)+384),Zb (x:=(m:Int)+384-1),show((m:Int)+384-1)=((m+383:Nat):Int) by omega,show(((m+383:Nat):Int).tdiv 384)=(((m+383)/384:Nat):Int)from rfl];exact Zb
theorem Zzz {Q:Out ah×St->Prop} {Kn:ah->M ah} (n:Nat) (b:Int) (l:ak) (p:ai) (s:St) (hs:Sl s p (ints l)) (hl:l.length<5000) (hn:l.length<n)
  (cC: ∀k∈l,¬(2<=k/\k<b)->Ok Q ((aw [.bool false]:M ah) s)) (ad1:(∀k∈l,2<=k/\k<b)->Ok Q (Kn [] s)):
  Ok Q (dc (λaV st=>
       aC .i64 st λi st=>
      aF st<|
      bif decide (i<(l.length:Int))then
       bK p λi1 o=>
      aA (aO i l.length)<|
      bH i1 (i.toNat*1+o) λd=>
      db .i64 d λx=>
      cO (λst=>gT st λb7 st=>aF st<|
       bif b7 then
       aw [.bool false]
      else
       aV [.i (aq (i+1))]) λlO=>
      bif decide (x<2)then
       lO [.bool true]
      else
       bK p λi2 o1=>
      aA (aO i l.length)<|
      bH i2 (i.toNat*1+o1) λd1=>
      db .i64 d1 λx1=>
      lO [.bool (decide (x1>=b))]
      else
       Kn []) n [.i 0] s):=by
 refine Zj _ (λq y t=>∃i:Nat,y=[.i (i:Int)]/\i<=l.length/\l.length-i<=q/\t=s/\∀k∈l.take i,2<=k/\k<b) ?_ l.length n _ _ Fd hn;rintro q _ t ⟨i,rfl,hi,hq,rfl,dH⟩ rec aN;rw[au,ao];by_cases av:i<l.length
 .obtain⟨i1,o1,rfl⟩:=hs.cS (by simp[ints];omega)
  have da:(ints l)[i]? =some (.i l[i]):=ZJ av;have hY:l.take (i+1)=l.take i++[l[i]]:=oq av;have iL:l[i]∈l:=jj av;rw[aR,bh,Zc (Zi av),bn,hs.dX da,bg];generalize l[i]=x at da hY iL;rw[Za];by_cases h2:x<2
  .rw[aR h2]
   simp only[ar,ao,ae];grind
  .rw[aU h2,bh,Zc (Zi av),hs.dX da]
   simp only[bg,ar,ao];by_cases h3:x>=b
   .rw[aR h3]
    grind
   .rw[aU h3,Zb]
    refine aN (l.length-(i+1)) _ _ AC ⟨i+1,rfl,AC,aJ _,rfl,λk hk=>?_⟩;rw[hY]at hk;grind
 .rw[aU]
  rw[dG AC]at dH;exact ad1 dH
theorem ZkF (n:Nat) (x:cm) (p:ai) (st:St) (hs:Sl st p (ints x.aK)) (hl:x.aK.length<1000) (hn:5000<=n:=by omega):
  Ok (λo=>∃s',o=(.val [.bool (ZP x)],s')/\aB st s') (run Bd n 195 [.agg (dI x p)] st):=by
 obtain⟨n,rfl⟩: ∃k,n=k+2:=⟨n-2,AC⟩;rw[Ze,h.agb];unfold SD yp az gj Q_ dj Zo l9 nh bF Lb Li fj bj vX dI
 try dsimp only
 rw[cX];simp only[au,aZ,ao];have hF: ∀s,aB st s->¬ox x->Ok (λo=>∃s',o=(.val [.bool (ZP x)],s')/\aB st s') ((aw [.bool false]:M ah) s):=λs hp e=>by
  have:ZP x=false:=by
   cases hs:ZP x
   .rfl
   .exact absurd ((xk x).1 hs) e
  rw[this,Zd];exact .mk ⟨s,rfl,hp⟩
 rw[Za];by_cases h1:x.seq<1
 .rw[aR h1]
  simp only[ar,ao];rw[Za,ae];simp only[ar,ao];rw[ae];exact hF st (.refl st) λk=>by have:=k.s0;omega
 rw[aU h1];simp only[ar,ao];rw[Za];by_cases h2:x.seq>4611686018427387904
 .rw[aR h2]
  simp only[ar,ao];rw[ae];exact hF st (.refl st) λk=>by have:=k.s1;omega
 rw[aU h2,Zk (Zkt n x.blocks x.cW x.g st)];simp only[ar,ao];cases hg:qA x.blocks x.cW x.g with
 |false=>
  rw[bD,ae];exact hF st (.refl st) λk=>by have:=k.g;rw[hg]at this;cases this
 |true=>
 have⟨g1,g2,g3,g4,g5,g6⟩:=ZM hg;rw[bI,af,Za];by_cases h3:x.used<0
 .rw[aR h3]
  simp only[ar,ao];rw[Za,ae];simp only[ar,ao];rw[Za,ae];simp only[ar,ao];rw[Za,ae];simp only[ar,ao];rw[ae];exact hF st (.refl st) λk=>by have:=k.u0;omega
 rw[aU h3];by_cases h4:x.used>x.cW
 .rw[aQ h4]
  simp only[ar,ao];rw[Za,ae];simp only[ar,ao];rw[Za,ae];simp only[ar,ao];rw[Za,ae];simp only[ar,ao];rw[ae];exact hF st (.refl st) λk=>by have:=k.u1;omega
 rw[bP h4];simp only[ar,ao];rw[Za,af];by_cases h5:x.free<0
 .rw[aQ h5]
  simp only[ar,ao];rw[Za,ae];simp only[ar,ao];rw[Za,ae];simp only[ar,ao];rw[ae];exact hF st (.refl st) λk=>by have:=k.f0;omega
 rw[bP h5];simp only[ar,ao];rw[Za,af];by_cases h6:x.free>x.used
 .rw[aQ h6]
  simp only[ar,ao];rw[Za,ae];simp only[ar,ao];rw[ae];exact hF st (.refl st) λk=>by have:=k.f1;omega
 rw[bP h6];simp only[ar,ao];rw[Za,af];have⟨m,hm⟩: ∃m:Nat,x.blocks=m:=⟨x.blocks.toNat,AC⟩;have y8:=Ui hg;rw[hm,bn]at y8;rw[hm];refine Ok.XD (Zjl (n+1) m x.cW x.g AC st) ?_;rintro _ rfl;refine⟨_,st,rfl,?_⟩;simp only[au,ar,ao];by_cases h7:(x.aK.length:Int)=(((m+383)/384:Nat):Int);rotate_left
 .rw[show((x.aK.length:Int)==(((m+383)/384:Nat):Int))=false from dM.2 h7,bD,ae]
  exact hF st (.refl st) λk=>by have:=k.len;rw[hm,y8]at this;exact h7 this
 rw[show((x.aK.length:Int)==(((m+383)/384:Nat):Int))=true by rw[h7];simp,bI,af];have fG: ∀k,oT x k=true↔2<=k/\k<(m:Int):=λk=>by rw[DY,hm]
 refine Ok.join λhZ YW=>?_
 have A7: ∀(q:ai) (z:Nat) (l:ak) (s:St),bc st s q (ints l)->(z=1\/q=none)->l.length<=1->(x.used=0->x.bY=0)->(l=if x.used=0 then[]else[x.bY])->Ok (λo=>∃s',o=(.val [.bool (ZP x)],s')/\aB st s') (hZ [.slice z q l.length] s):=by
  intro q z l s ho hz nz Da hle;rw[YW];simp only[Zh 1 z q _ hz,ao];refine Ok.join λjb YX=>?_
  have A8: ∀(q:ai) (l:ak) (s:St),bc st s q (ints l)->l.length<=2->(l=(if x.used=0 then[]else[x.bY])++(if x.dir=0 then[]else[x.dir]))->Ok (λo=>∃s',o=(.val [.bool (ZP x)],s')/\aB st s') (jb [.slice 1 q l.length] s):=by
   intro q l s ho lM hle;rw[YX];simp only[aZ,ao];refine Ok.join λjc Po=>?_
   have aiD: ∀i k,i<x.aK.length->k<i->x.aK[k]? =x.aK[i]? ->¬ox x:=λi k hi hk e hS=>by
    have:=(hS.ch i hi).2;rw[cz,cc hi]at this;refine this (List.mem_take_iff_getElem.2 ⟨k,AC,?_⟩);rw[cc AC,cc hi]at e;exact DB e
   refine Zj _ (λr y t=>∃(i z:Nat) (q:ai),y=[.slice z q (l++x.aK.take i).length,.i (i:Int)]/\(z=1\/q=none)/\i<=x.aK.length/\x.aK.length-i<=r/\bc st t q (ints (l++x.aK.take i))/\∀j,j<i->x.aK.getD j 0∉x.aK.take j) ?_ x.aK.length (n+1) _ _ ⟨0,1,q,Do,.inl rfl,cN _,AC,by simpa using ho,AC⟩ AC;rintro r _ t ⟨i,z,q,rfl,hz,hi,hr,ho,Pc⟩ rec aN;simp only[au,Zh 1 z q _ hz,ao];have cq:=hs.mono ho.1;by_cases av:i<x.aK.length
   .obtain⟨i1,o1,rfl⟩:=hs.cS (by simp[ints];omega)
    have da:(ints x.aK)[i]? =some (.i x.aK[i]):=ZJ av;have hY:x.aK.take (i+1)=x.aK.take i++[x.aK[i]]:=oq av;rw[aR,Za,bh,Zc (Zi av),bn,cq.dX da,bg];have fV:(l++x.aK.take i).length<=2000:=by rw[ba,cB];omega
    have⟨q2,t2,du,sD,he⟩:=ho.Dq (Y:=ah) (sz:=1) (n:=(l++x.aK.take i).length) (lim:=8796093022208) [.i x.aK[i]] (yh 0) (by simp[ints]) rfl AC;refine Eq.mpr (congrArg (Ok _) (he _)) ?_;rw[Za];have K0:=hs.mono du.1;refine Zj _ (λq y u=>∃k:Nat,y=[.i (k:Int)]/\k<=i/\i-k<=q/\u=t2/\x.aK[i]∉x.aK.take k) ?_ i (n+1) _ _ ⟨0,rfl,cN _,AC,rfl,Do⟩ AC;rintro r2 _ u ⟨k,rfl,hk,iH,rfl,rz⟩ dP mW;rw[au,ao];by_cases hlk:k<i
    .have jR:k<x.aK.length:=AC
     have wA:(ints x.aK)[k]? =some (.i x.aK[k]):=ZJ jR;rw[aR,bh,Zc (Zi jR),bn,K0.dX wA];simp only[bg];rw[bh,Zc (Zi av),K0.dX da];simp only[bg];by_cases he:x.aK[k]=x.aK[i]
     .rw[show(x.aK[k]==x.aK[i])=true by rw[he];exact Ad _,ae]
      exact hF u du.1 (aiD i k av hlk (by rw[cc jR,cc av,he]))
     .rw[show(x.aK[k]==x.aK[i])=false from dM.2 he,af,Zb]
      refine mW (i-(k+1)) _ _ AC ⟨k+1,rfl,AC,aJ _,rfl,?_⟩;rw[oq jR];intro mn;rcases ga.1 mn with mn|mn
      .exact rz mn
      .exact he (cH.1 mn).symm
    .rw[aU]
     have:k=i:=AC
     subst this;simp only[aZ,ao];rw[Zb];refine aN (x.aK.length-(k+1)) _ _ AC ⟨k+1,1,q2,?_,.inl rfl,AC,aJ _,?_,λj hj=>?_⟩
     .rw[hY,<-dL,ba (as:=l++x.aK.take k)];rfl
     .rw[hY,<-dL]
      unfold ints at du⊢;rw[eV (l₁:=l++x.aK.take k)];exact du
     .by_cases wE:j=k
      .subst wE
       rw[cz,cc av];exact rz
      .exact Pc j AC
   .rw[aU]
    have:i=x.aK.length:=AC
    subst this;rw[rQ]at ho⊢;rw[Po];simp only[aZ,ao];refine Ok.join λkZ YU=>?_
    refine Zzz (Kn:=kZ) (n+1) m (l++x.aK) q t ho.sl (by rw[ba];omega) (by rw[ba];omega) ?_ ?_
    .intro k hk Ev
     refine hF t ho.1 λhS=>Ev ?_
     rw[<-fG];rcases ga.1 hk with hk|hk
     .rw[hle]at hk
      rcases ga.1 hk with hk|hk
      .by_cases hu:x.used=0
       .rw[bx hu]at hk;cases hk
       .rw[aY hu]at hk;rw[cH.1 hk];exact hS.t1 AC
      .by_cases hu:x.dir=0
       .rw[bx hu]at hk;cases hk
       .rw[aY hu]at hk;rw[cH.1 hk];exact hS.d hu
     .obtain⟨i,hi,rfl⟩:=List.mem_iff_getElem.1 hk
      have:=(hS.ch i hi).1;rw[cz,cc hi]at this;exact this
    .intro dH
     have:ZP x=true:=by
      refine(xk x).2 ⟨AC,AC,hg,AC,AC,AC,AC,Da,λhu=>?_,λhu=>?_,by rw[hm,y8];exact h7,λi hi=>⟨?_,Pc i hi⟩⟩
      .rw[fG]
       exact dH _ (ga.2 (.inl (by rw[hle,aY AC];simp)))
      .rw[fG]
       exact dH _ (ga.2 (.inl (by rw[hle,aY hu];simp)))
      .rw[fG,cz,cc hi]
       exact dH _ (ga.2 (.inr (jj hi)))
     rw[YU];simp only[ao];rw[this,Zd];exact .mk ⟨t,rfl,ho.1⟩
  by_cases zd:x.dir=0
  .rw[show(!(x.dir==0))=false by rw[zd];rfl,af]
   grind
  .rw[show(!(x.dir==0))=true by rw[kN];grind,ae]
   have⟨q2,t2,du,sD,he⟩:=ho.Dq (Y:=ah) (sz:=1) (n:=l.length) (lim:=8796093022208) [.i x.dir] (yh 0) (by simp[ints]) rfl AC;refine Eq.mpr (congrArg (Ok _) (he _)) ?_;have:=A8 q2 (l++[x.dir]) t2 (by unfold ints at du⊢;rw[eV];exact du) (by simp;omega) (by rw[aY zd,<-hle]);rw[ba]at this;exact this
 by_cases sO:x.used=0
 .rw[show(x.used==0)=true by rw[sO];rfl,ae]
  by_cases hfn:x.bY=0
  .rw[show(!(x.bY==0))=false by rw[hfn];rfl,af]
   exact A7 none 0 [] st (bc.nil (.refl st)) (.inr rfl) Do (λ_=>hfn) (by rw[bx sO])
  .rw[show(!(x.bY==0))=true by rw[kN];grind,ae]
   exact hF st (.refl st) λk=>hfn (k.t0 sO)
 .rw[show(x.used==0)=false from dM.2 sO,af]
  have⟨q2,t2,du,sD,he⟩:=(bc.nil (.refl st)).Dq (Y:=ah) (sz:=1) (n:=0) (lim:=8796093022208) [.i x.bY] (yh 0) rfl rfl AC;refine Eq.mpr (congrArg (Ok _) (he _)) ?_;exact A7 q2 1 [x.bY] t2 du (.inl rfl) Do (λe=>absurd e sO) (by rw[aY sO])
theorem ZAZ (k m:Nat) (hk:k<64) (h:2^k*(2*m+1)<18446744073709551616):bits .and .u64 ((2^k*(2*m+1):Nat):Int) (IntKind.wrap .u64 (0-((2^k*(2*m+1):Nat):Int)))=((2^k:Nat):Int):=by
 have hp:0<2^k*(2*m+1):=Fd
 have hn:=ZzV k m 64 hk AC;generalize 2^k*(2*m+1)=w at h hp hn⊢;have e:IntKind.wrap .u64 (0-(w:Int))=((2^64-w:Nat):Int):=by
  show(0-(w:Int))%18446744073709551616=_;omega
 rw[e,Zw4 h,hn]
def HT (k:Nat):Nat:=(2^k*285870213051353865%18446744073709551616)/288230376151711744
def abK (d:Option DV) (k:Nat):Bool:=match d with
 |some (.u n)=>n==(k:Int)
 |_=>false
theorem ZAz {d:Option DV} (h:abK d k=true):d=some (.u (k:Int)):=by
 unfold abK at h;grind
theorem Zxe: ∀k,k<64->HT k<64/\abK (Qs[HT k]?) k=true:=by decide+kernel
theorem ZBl (k:Nat) (h:k<64):HT k<64/\Qs[HT k]? =some (.u (k:Int)):=⟨(Zxe k h).1,ZAz (Zxe k h).2⟩
theorem ZzA (x c:Nat):(IntKind.wrap .u64 ((x:Int)*(c:Int))).fdiv (2^58)=((x*c%18446744073709551616/288230376151711744:Nat):Int):=by
 have e1:((x:Int)*(c:Int))=((x*c:Nat):Int):=by push_cast;rfl
 have e2:(2:Int)^58=((288230376151711744:Nat):Int):=EQ
 rw[e1,ZzY,e2,Ea]
theorem alc:QT Bd:=by
 intro n k m st ht hk hw;rw[Ze,h.e86];have hand:=ZAZ k m hk hw;have hp:0<2^k*(2*m+1):=Fd
 generalize 2^k*(2*m+1)=w at hand hp hw;have⟨h1,h2⟩:=ZBl k hk;have KY:(IntKind.wrap .u64 (((2^k:Nat):Int)*285870213051353865)).fdiv (2^58)=(HT k:Int):=ZzA (2^k) 285870213051353865;unfold Ig Xx;rw[au,ao,hand,KY,show((w:Int)==0)=false from dM.2 AC,af,Zc (show aO (HT k:Int) 64=true from Zi h1),bn,cR,fE,Zn (i:=2) (f:=true) (all:=Qs) (d:= .u (k:Int)) (ht 2 _ rfl) h2,bg,Zd,Zb]
