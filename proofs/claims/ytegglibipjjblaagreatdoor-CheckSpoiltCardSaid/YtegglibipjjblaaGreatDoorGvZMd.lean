/- States alike: the program's own comparison. -/
import Derived.Test.YtegglibipjjblaaGreatDoorGvZMc
set_option linter.all false
namespace Go.Gv.F
open Go.Gv
variable {β:Type}
variable {f g:Bool} {i i2 j j2 k m m2 o y:Nat} {V W:al}
theorem Zx6 {s:St} {ds:ah} {xs:List dJ} {x:dJ} (hs:Sl s (some (i,o)) ds) (hh:jo s ds xs) (e:xs[j]? =some x): ∃z p,(z=4\/p=none)/\Sl s p (bY x.cg)/\∀K:ah->M β,bX i (j*2+o) 2 K s=K (me x z p) s:=by
 have⟨z,p,hz,h1,_,_,h2⟩:=hh.get e;have hj:j<xs.length:=Fd
 exact⟨z,p,hz,h2,λK=>by rw[hs.yN (k:=j*2) (n:=2) (by rw[hh.len];omega) K,h1]⟩
theorem wM (w j:Nat):eI w j=w.testBit j:=by rw[Nat.testBit_eq_decide_div_mod_eq];rfl
theorem ZuY: ∀(w:Nat),0<w->∃k m,w=2^k*(2*m+1)
 |0,h=>absurd h EQ
 |w+1,_=>by
  by_cases h:(w+1)%2=1
  .exact⟨0,(w+1)/2,AC⟩
  .have⟨k,m,e⟩:=ZuY ((w+1)/2) AC
   exact⟨k+1,m,by rw[u7,Nat.mul_right_comm,<-e];omega⟩
termination_by w=>w
decreasing_by omega
theorem Aj (k a j:Nat):(2^k*a).testBit j=(decide (k<=j)&&a.testBit (j-k)):=by
 rw[Nat.testBit_two_pow_mul]
theorem Jm (m i:Nat):(2*m+1).testBit i=(decide (i=0)||(2*m).testBit i):=by
 cases i with
 |zero=>simp[Nat.testBit_zero]
 |succ i=>
  rw[Nat.testBit_succ,Nat.testBit_succ,show(2*m+1)/2=m by omega,show 2*m/2=m by omega];simp
theorem Zru (m:Nat):(2*m).testBit 0=false:=by simp[Nat.testBit_zero]
theorem D6 (k a b j:Nat) (h:b<2^k):(2^k*a+b).testBit j=if j<k then b.testBit j else a.testBit (j-k):=by
 rw[Nat.testBit_two_pow_mul_add a h]
theorem ZyX (k m:Nat):2^k*(2*m+1)&&& (2^k*(2*m+1)-1)=2^k*(2*m):=by
 have hp:0<2^k:=Nat.two_pow_pos k;have e:2^k*(2*m+1)-1=2^k*(2*m)+(2^k-1):=by rw[Nat.mul_add,cS];omega
 rw[e];refine DH λj=>?_
 rw[Ie,Aj,D6 k _ _ j AC,Aj];by_cases hj:j<k
 .rw[bM AC];simp
 grind[Jm,Zru]
theorem ZAd (k m n:Nat) (hk:k<n) (h:2^k*(2*m+1)<2^n):2^k*(2*m+1)&&& (2^n-2^k*(2*m+1))=2^k:=by
 have hn:2^n=2^k*(2*2^(n-k-1)):=by rw[<-Nat.pow_succ',<-Nat.pow_add];congr 1;omega
 rw[hn]at h⊢;have hm:2*m+1<2*2^(n-k-1):=Nat.lt_of_mul_lt_mul_left h;have fE:m<2^(n-k-1):=AC
 rw[<-Nat.mul_sub,show 2*2^(n-k-1)-(2*m+1)=2*(2^(n-k-1)-(m+1))+1 by omega];refine DH λj=>?_
 rw[Ie,Aj,Aj,Nat.testBit_two_pow,Jm,Jm];by_cases hj:k<=j
 .rw[aS hj]
  by_cases h0:j=k
  .subst h0;simp
  .rw[bM (AC:¬k=j),bM (AC:¬j-k=0)]
   have⟨i,hi⟩: ∃i,j-k=i+1:=⟨j-k-1,AC⟩;rw[hi,Nat.testBit_succ,Nat.testBit_succ,Nat.mul_div_cancel_left _ EQ,Nat.mul_div_cancel_left _ EQ,Nat.testBit_two_pow_sub_succ fE];cases m.testBit i<;>simp
 grind
def oB (w:Nat):al:=(List.range 64).filter (eI w)
theorem Zv2:oB 0=[]:=by
 rfl
theorem ZwY (k n:Nat) (h:k<n):List.range n=List.range k++k::List.range' (k+1) (n-k-1):=by
 have:n=k+(1+(n-k-1)):=AC
 rw[List.range_eq_range',List.range_eq_range']
 conv=>lhs;rw[this]
 rw[<-List.range'_append_1,tX 1,Me,eJ]
theorem Zv1 (k m:Nat) (hk:k<64):oB (2^k*(2*m+1))=k::oB (2^k*(2*m)):=by
 unfold oB;rw[ZwY k 64 hk,FL,FL,List.filter_cons,List.filter_cons];have h1: ∀a,(List.range k).filter (eI (2^k*a))=[]:=λa=>by
  rw[List.filter_eq_nil_iff];grind[wM,Aj]
 have h2:eI (2^k*(2*m+1)) k=true:=by rw[wM,Aj,Jm];simp
 have h3:eI (2^k*(2*m)) k=false:=by rw[wM,Aj,BK,Zru];simp
 rw[h1,h1,h2,h3,bG rfl,bq EQ,iG,iG];refine congrArg (k:: ·) (List.filter_congr λj hj=>?_);rw[wM,wM,Aj,Aj,Jm,bM (show ¬j-k=0 by have:=List.mem_range'_1.1 hj;omega)];rfl
theorem Nc (w:Nat):(oB w).length<=64:=by
 have:=List.length_filter_le (eI w) (List.range 64);rw[List.length_range]at this;exact this
def vu:Nat->al->ak
 |_,[]=>[]
 |b,w::r=>(oB w).map (λj=>((b*64+j:Nat):Int))++vu (b+1) r
def dB (W:al):ak:=vu 0 W
theorem Zpi: ∀(b:Nat) (W:al),(vu b W).length<=64*W.length
 |_,[]=>aM _
 |b,w::r=>by
  unfold vu;have:=Zpi (b+1) r;have:=Nc w;rw[bz,lB,cQ];omega
theorem ZpM: ∀(b:Nat) (W:al) (w:Nat),vu b (W++[w])=vu b W++(oB w).map (λj=>(((b+W.length)*64+j:Nat):Int))
 |b,[],w=>by simp[vu]
 |b,x::r,w=>by
  rw[od];unfold vu;rw[ZpM (b+1) r w,fR,cQ,Nat.add_right_comm b 1,uZ b]
theorem Zwt (W:al) (h:i<W.length):dB (W.take (i+1))=dB (W.take i)++(oB W[i]).map (λj=>((i*64+j:Nat):Int)):=by
 unfold dB;rw[lV h,ZpM,cR,og AC,eJ]
def QU (Bd:Zh):Prop:=∀(n k m:Nat) (st:St),sO st->k<64->2^k*(2*m+1)<18446744073709551616->run Bd (n+1) 86 [.w ((2^k*(2*m+1):Nat):Int)] st=some (.val [.i (k:Int)],st)
theorem ZxE {a b:Nat} (ha:a<18446744073709551616) (hb:b<18446744073709551616:=by omega):bits .and .u64 (a:Int) (b:Int)=((a&&& b:Nat):Int):=Ev ha hb
theorem SD (W:al) (i:Nat):(dB (W.take i)).length<=64*W.length:=by
 have h1:=Zpi 0 (W.take i);grind[dB]
variable {Bd:Zh} [h:HA Bd]
theorem Zmv (hz:QU Bd) (n:Nat) (st:St) (ht:sO st) (hs:gJ st f i j m W) (hn:80<=n:=by omega):
  Ok (λo=>∃p s',o=(.val [.slice 1 p (dB W).length],s')/\aA st s'/\Sl s' p (ints (dB W))/\∀b∈aN p,st.length<=b) (run Bd n 172 [.ptr (some (i,0))] st):=by
 obtain⟨n,rfl⟩: ∃k,n=k+2:=⟨n-2,AC⟩;rw[Ze,h.afh];unfold Rz jt fJ kB wN cA ba ep lE Li iH
 try dsimp only
 rw[eO,aq,bc,Zo hs.hd rfl];simp only[kA,Za];have hle:=hs.le;have hlen:=hs.len;refine Zj _ (λq y s=>∃(a z:Nat) (p:ai),y=[.slice z p (dB (W.take a)).length,.i a]/\(z=1\/p=none)/\a<=W.length/\W.length-a<=q/\bg st s p (ints (dB (W.take a)))) ?_ W.length (n+1) _ _ ⟨0,0,none,rfl,.inr rfl,cB _,AC,bg.nil (.refl st)⟩ AC;rintro q _ s ⟨a,z,p,rfl,hzp,ha,hq,ho⟩ rec aL;simp only[av,Zf 1 z p _ hzp,aq];have eY:=hs.pre ho.1;by_cases aw:a<W.length
 .rw[aX,bc,Zb (Zi aw),br]
  have oM:=hs.lt _ (ku aw);rw[Zo (d:= .w (W[a]:Nat)) eY.wd (by rw[cS,gQ];simp[Zv,aw]),bj];have uP:=Zwt W aw;have hA:=SD W a;generalize dB (W.take a)=A at ho uP hA;generalize W[a]=w at oM uP;have cM:ar ((a:Int)+1)=((a+1:Nat):Int):=Zc;have fY:ar ((a:Int)*64)=((a*64:Nat):Int):=by rw[Zc];omega
  rw[cM,fY];have⟨F,hF⟩: ∃F:Nat->Int,(λj=>((a*64+j:Nat):Int))=F:=⟨_,rfl⟩;rw[hF]at uP;refine Zj _ (λq' y t=>∃(w' z':Nat) (D:al) (p':ai),y=[.slice z' p' (A++D.map F).length,.w (w':Int)]/\(z'=1\/p'=none)/\w'<18446744073709551616/\D++oB w'=oB w/\(oB w').length<=q'/\bg st t p' (ints (A++D.map F))) ?_ 64 (n+1) _ _ ⟨w,1,[],p,by rw[List.map_nil,gM],.inl rfl,oM,rfl,Nc w,by rw[List.map_nil,gM];exact ho⟩ AC;rintro q' _ t ⟨w',z',D,p',rfl,ajV,ac2,hD,tC,uN⟩ dC kf;simp only[av,Zf 1 z' p' _ ajV,aq];by_cases zl:w'=0
  .subst zl
   rw[oz FS,aV,aq];rw[Zv2,gM]at hD;rw[hD,<-uP]at uN⊢;exact aL (W.length-(a+1)) _ _ AC ⟨a+1,1,p',rfl,.inl rfl,AC,aM _,uN⟩
  .have hnz:(!((w':Int)==0))=true:=by rw[lT,eN];omega
   have⟨k,m',e⟩:=ZuY w' AC;have hk:k<64:=by
    rcases kz k 64 with h|h
    .exact h
    .have h1:2^64<=2^k:=oh EQ h
     have h2:2^k*1<=2^k*(2*m'+1):=Nat.mul_le_mul_left _ AC;omega
   rw[hnz,ae];subst e;rw[Zk (hz n k m' t (ht.mono uN.1) hk ac2),av,aq];have jO:ar (((a*64:Nat):Int)+(k:Int))=F k:=by rw[<-hF];exact Zc
   rw[jO];have xr:IntKind.wrap .u64 (((2^k*(2*m'+1):Nat):Int)-1)=((2^k*(2*m'+1)-1:Nat):Int):=by
    have h1:(((2^k*(2*m'+1):Nat):Int)-1)=((2^k*(2*m'+1)-1:Nat):Int):=AC
    rw[h1];exact rE
   have iL:bits .and .u64 (((2^k*(2*m'+1):Nat):Int)) (IntKind.wrap .u64 (((2^k*(2*m'+1):Nat):Int)-1))=((2^k*(2*m'):Nat):Int):=by
    rw[xr,ZxE ac2,ZyX]
   rw[iL];rw[Zv1 k m' hk]at hD tC;have hlD:(A++D.map F).length<=1000000:=by
    have h1:=congrArg List.length hD;rw[bz]at h1;have:=Nc w;rw[bz,lB];omega
   have⟨p2,s2,dj,rZ,he⟩:=uN.Dt (β:=ah) (sz:=1) (n:=(A++D.map F).length) (lim:=8796093022208) [.i (F k)] (xU 0) (by simp[ints]) rfl AC;refine Eq.mpr (congrArg (Ok _) (he _)) ?_;refine kf (oB (2^k*(2*m'))).length _ _ (by simp at tC;omega) ⟨_,1,D++[k],p2,?_,.inl rfl,?_,by rw[fR];exact hD,aM _,?_⟩
   .rw[fB,<-fR,bz (as:=A++D.map F)];rfl
   .have:2^k*(2*m')<=2^k*(2*m'+1):=Nat.mul_le_mul_left _ AC
    omega
   .rw[fB,<-fR]
    unfold ints at dj⊢;rw[fB (l₁:=A++D.map F)];exact dj
 .rw[aZ]
  rw[aV,aq,Zd];rw[dF AC]at ho⊢;refine .mk ⟨p,s,rfl,ho.1,ho.sl,λb hb=>?_⟩;rcases ho.2 with⟨rfl,_⟩|⟨i',rfl,h1,_⟩
  .cases hb
  .rw[cE.1 hb];exact h1
def Qg (x:Int):Int:=match Rp (λ_ _=>fail) 0 [.w x] []with
 |some (.val [.int _ v],_)=>v
 |_=>0
theorem ZtB (n:Nat) (x:Int) (st:St):run Bd (n+1) 210 [.w x] st=some (.val [.i (Qg x)],st):=by
 rw[Ze,h.afH];rfl
def JB:Int->al->Int
 |a,[]=>a
 |a,w::r=>JB (ar (a+Qg w)) r
def Cn (W:al):Int:=JB 0 W
theorem Zr2 (n:Nat) (st:St) (hs:gJ st f i j m W) (hn:80<=n):Ok (λo=>o=(.val [.i (Cn W)],st)) (run Bd n 183 [.ptr (some (i,0))] st):=by
 obtain⟨n,rfl⟩: ∃k,n=k+2:=⟨n-2,AC⟩;rw[Ze,h.afm];unfold RH jt pA je wN cA Li lE gA
 try dsimp only
 rw[eO,aq,bc,Zo hs.hd rfl,kA,Za];have hle:=hs.le;have hlen:=hs.len;refine Zj _ (λq y s=>∃(a:Nat) (c:Int),y=[.i c,.i a]/\a<=W.length/\W.length-a<=q/\s=st/\JB c (W.drop a)=Cn W) ?_ W.length (n+1) _ _ ⟨0,0,rfl,cB _,AC,rfl,rfl⟩ AC;rintro q _ s ⟨a,c,rfl,ha,hq,rfl,hc⟩ rec aL;simp only[av,aq];by_cases aw:a<W.length
 .rw[aX,bc,Zb (Zi aw),br]
  rw[Zo (d:= .w (W[a]:Nat)) hs.wd (by rw[cS,gQ];simp[Zv,aw]),bj,Zk (ZtB n _ s),av,aq];have cM:ar ((a:Int)+1)=((a+1:Nat):Int):=Zc;rw[cM];refine aL (W.length-(a+1)) _ _ AC ⟨a+1,_,rfl,AC,aM _,rfl,?_⟩;rw[<-hc,jd aw];rfl
 .rw[aZ]
  rw[Zd];rw[ly AC]at hc;exact .mk (by rw[<-hc];rfl)
theorem Zqu (n:Nat) (W V:al) (a b:Nat) (f g:Bool) (st:St) (ha:st[a]? =some (some ⟨f,Zv W⟩)) (hb:st[b]? =some (some ⟨g,Zv V⟩)) (hW:W.length<100000) (hn:W.length+3<=n):
  Ok (λo=>o=(.val [.bool (decide (W=V))],st)) (run Bd n 236 [.slice 1 (some (a,0)) W.length,.slice 1 (some (b,0)) V.length] st):=by
 obtain⟨n,rfl⟩: ∃k,n=k+2:=⟨n-2,AC⟩;rw[Ze,h.af4];unfold Q3 bZ Q_ cN wN Lb Li;simp only[aV,aq];have no:W≠V->Ok (λo=>o=(.val [.bool (decide (W=V))],st)) ((ax [.bool false]:M ah) st):=by
  intro hm;rw[Zd];exact .mk (by rw[bM hm])
 by_cases hlen:W.length=V.length;rotate_left
 .rw[show((W.length:Int)==(V.length:Int))=false from eN.2 AC,bp,ae]
  grind
 rw[show((W.length:Int)==(V.length:Int))=true by rw[hlen];simp,bw,af,Za];refine Zj _ (λk v s=>∃i:Nat,v=[.i i]/\i<=W.length/\W.length-i<=k/\s=st/\∀j,j<i->W[j]? =V[j]?) ?_ W.length (n+1) _ _ Fd AC;rintro k _ s ⟨i,rfl,hi,hk,rfl,dt⟩ rec aL;simp only[av,aq];by_cases aw:i<W.length
 .have kX:i<V.length:=AC
  rw[aX,bc,Zb (Zi aw),br,Zo (d:= .w (W[i]:Nat)) ha (by rw[cS,gQ];simp[Zv,aw]),bj,bc,Zb (Zi kX),Zo (d:= .w (V[i]:Nat)) hb (by rw[cS,gQ];simp[Zv,kX]),bj];by_cases hw:W[i]=V[i]
  .rw[show(((W[i]:Nat):Int)==((V[i]:Nat):Int))=true by rw[hw];simp,bw,af,Zc]
   refine aL (W.length-(i+1)) _ _ AC ⟨i+1,rfl,AC,AC,rfl,λj hj=>?_⟩;by_cases mJ:j<i
   .exact dt j mJ
   grind
  grind
 .rw[aZ,Zd]
  refine .mk ?_;have:W=V:=tU λj=>by
   by_cases hj:j<i
   .exact dt j hj
   grind
  rw[aS this]
theorem ZmO (n:Nat) (st:St) (hs:gJ st f i j m W) (lO:gJ st g i2 j2 m2 V) (hn:80<=n:=by omega):
  Ok (λo=>o=(.val [.bool (decide (m=m2)&&decide (W=V))],st)) (run Bd n 202 [.ptr (some (i,0)),.ptr (some (i2,0))] st):=by
 obtain _|n:=n;omega;rw[Ze,h.afz];unfold RA jt Zm az bu Lb wP;simp only[eO,aq,bc];rw[Zo hs.hd rfl,bj,Zo lO.hd rfl,bj,Za];have hle:=hs.le;have hlen:=hs.len;by_cases hm:m=m2
 .rw[show((m:Int)==(m2:Int))=true by rw[hm];simp,ae,Zo hs.hd rfl]
  rw[kA,Zo lO.hd rfl,kA];refine Ok.call (Zqu n W V j j2 f g st hs.wd lO.wd AC AC) ?_;rintro _ rfl;refine⟨_,st,rfl,?_⟩;simp only[au,aq,Zd];exact .mk (by rw[aS hm,dL])
 .rw[show((m:Int)==(m2:Int))=false from eN.2 AC,af]
  simp only[au,aq,Zd];exact .mk (by rw[bM hm,gu])
def sW (l:List ZS):ah:=(l.map Z0).flatten
theorem MV {x:ZS} (h:x.dR.length=48):(Z0 x).length=49:=by simp[Z0,cQ,Zs,h]
theorem Us: ∀ {l:List ZS},(∀x∈l,x.dR.length=48)->(sW l).length=l.length*49
 |[],_=>rfl
 |x::l,h=>by
  show(Z0 x++sW l).length=_;rw[bz,MV (h x Do),Us λy hy=>h y (by simp[hy]),cQ];omega
theorem Zn2: ∀ {l:List ZS} {j:Nat} {e:ZS},(∀x∈l,x.dR.length=48)->l[j]? =some e->((sW l).drop (j*49)).take 49=Z0 e
 |[],j,e,_,h=>by simp at h
 |x::l,0,e,hl,h=>by
  simp only[lz,fZ]at h;subst h;rw[oZ,dE];have:=MV (hl x Do);show(Z0 x++sW l).take 49=_;rw[<-this,FO]
 |x::l,j+1,e,hl,h=>by
  have e2:sW (x::l)=Z0 x++sW l:=rfl;have h49:=MV (hl x Do);rw[e2,show(j+1)*49=(Z0 x).length+j*49 by omega,<-jG,DG];exact Zn2 Fd (by simpa using h)
theorem ZuA (l m:List ZS):sW (l++m)=sW l++sW m:=by
 simp[sW]
def Ds (m:Nat) (x:ZS):Bool:=bif decide (0<(ft x 384).length)then decide ((ft x 384).getLastD 0>=(m:Int))else false
def Cp (m:Nat):Nat->List ZS->al->Option (al)
 |_,[],W=>some W
 |i,x::r,W=>bif decide (x.no=i)&& !Ds m x then Cp m (i+1) r ((ft x 384).foldl (bN m) W)else none
def CL (m:Nat) (l:List ZS):Option (al):=bif decide ((l.length:Int)=qS m 384)then Cp m 0 l (jl m [])else none
theorem ZpY (n:Nat) (x:Int) (st:St):run Bd (n+1) 240 [.i x] st=some (.val [.i (qS x 384)],st):=by
 rw[Ze,h.af8];rfl
theorem ZtW (n m:Nat) (l:List ZS) (p:ai) (z:Nat) (st:St) (hm:m<=3072) (hz:z=49\/p=none) (hl:Sl st p (sW l)) (w9: ∀x∈l,x.dR.length=48/\x.no<8) (gD:l.length<1000) (hn:2000<=n):
  Ok (λo=>∃s',aA st s'/\match CL m l with
   |none=>o=(.val [.ptr none,.bool false],s')
   |some F=>∃i j,o=(.val [.ptr (some (i,0)),.bool true],s')/\gJ s' false i j m F) (run Bd n 200 [.i (m:Int),.slice z p l.length] st):=by
 obtain⟨n,rfl⟩: ∃k,n=k+2:=⟨n-2,AC⟩;have⟨R,hR⟩: ∃R,CL m l=R:=⟨_,rfl⟩;rw[hR];unfold CL at hR;rw[Ze,h.afx];unfold TK az Ab Q_ cN N_ il C_ Zm cA Li Lb
 try dsimp only
 rw[av,Zf 49 z p _ hz,aq,Za,aZ,bM (AC:¬(m:Int)>3072)];simp only[au,aq];rw[Za,af,Zk (ZpY n m st)];simp only[av,au,aq];have hq:((l.length:Int)==qS m 384)=decide ((l.length:Int)=qS m 384):=rfl;rw[hq];cases CV:decide ((l.length:Int)=qS m 384)with
 |false=>
  rw[CV,af]at hR;rw[bp,ae,Zd,<-hR];exact .mk ⟨st,.refl st,rfl⟩
 |true=>
 rw[CV,ae]at hR;rw[bw,af];have⟨s1,e1,aD,Pf,PG⟩:=UQ (n+1) m [] none st hm rfl (by show 0<1000000;omega) Fd;have yG:run Bd (n+1) 177 [.i (m:Int),.slice 0 none 0] st=some (.val [.ptr (some (st.length+1,0))],s1):=by
  rw[Ze,h.abQ]at e1⊢;exact e1
 rw[Zk yG,eO,aq,Za];refine Zj _ (λq y s=>∃(i:Nat) (W:al),y=[.i i]/\i<=l.length/\l.length-i<=q/\aA st s/\gJ s false (st.length+1) st.length m W/\Cp m i (l.drop i) W=R) ?_ l.length (n+1) _ _ ⟨0,_,rfl,cB _,AC,aD,PG,hR⟩ AC;rintro q _ s ⟨i,W,rfl,hi,hq,iM,dp,aO⟩ rec aL;rw[av,aq];by_cases aw:i<l.length
 .have dI:=hl.mono iM
  have np:l[i]? =some l[i]:=cu aw;have⟨Xy,h8x⟩:=w9 _ (ku aw);have hlen:=Us λx hx=>(w9 x hx).1
  obtain⟨i1,o1,rfl⟩:=dI.cF (by rw[hlen];omega);have gj:l.drop i=l[i]::l.drop (i+1):=jd aw;rw[gj]at aO;rw[aX,bc,Zb (Zi aw),br,dI.yN (k:=i*49) (n:=49) (by rw[hlen];omega),Zn2 (λx hx=>(w9 x hx).1) np];generalize l[i]=x at aO Xy h8x;unfold Cp at aO;have iz:(bI x.dR).length=48:=by rw[Zs,Xy]
  show Ok _ (aC .i64 (.i x.no::bI x.dR) _ s);rw[av,bK iz,bK (by simp[iz])];refine Ok.call (Zsi (n+1) x Xy h8x s AC) ?_;rintro _ ⟨px,s2,rfl,aU,tz⟩;refine⟨_,s2,rfl,?_⟩;rw[aV,aq];have zd:=dp.pre aU;have alo:=Zrf x 384;have mO: ∀t,aA st t->R=none->Ok (λo=>∃s',aA st s'/\match R with
   |none=>o=(.val [.ptr none,.bool false],s')
   |some F=>∃i j,o=(.val [.ptr (some (i,0)),.bool true],s')/\gJ s' false i j m F) ((ax [.ptr none,.bool false]:M ah) t):=by
   intro t ht e;rw[e,Zd];exact .mk ⟨t,ht,rfl⟩
  have dQ:(((x.no:Int))==(i:Int))=decide (x.no=i):=by
   by_cases e:x.no=i
   .rw[e,aS rfl];grind
   grind
  rw[dQ];cases cD:decide (x.no=i)with
  |false=>
   rw[cD,gu,af]at aO;rw[Za,bp,ae];simp only[au,aq,ae];exact mO s2 (iM.trans aU) aO.symm
  |true=>
  rw[cD,dL]at aO;have⟨ov,vY⟩: ∃ov,Ds m x=ov:=⟨_,rfl⟩;rw[vY]at aO;unfold Ds at vY;refine Ok.join λcq C9=>?_
  have hA:Ok (λo=>∃s',aA st s'/\match R with
   |none=>o=(.val [.ptr none,.bool false],s')
   |some F=>∃i j,o=(.val [.ptr (some (i,0)),.bool true],s')/\gJ s' false i j m F) (cq [.bool ov] s2):=by
   rw[C9];simp only[au,aq];cases ov with
   |true=>
    rw[bw,af]at aO;rw[ae];exact mO s2 (iM.trans aU) aO.symm
   |false=>
    rw[bp,ae]at aO;rw[af];have EX:lW [st.length] px:=λb o e hb=>by
     rw[cE.1 hb]at e;subst e;have⟨all,e1⟩:=tz.2 _ _ rfl;rw[zd.wd]at e1;cases e1
    rw[Zk (IQ (n+1) (ft x 384) px s2 zd AC tz.1 EX),aq];have cM:ar ((i:Int)+1)=((i+1:Nat):Int):=Zc;rw[cM];have ai9:=iM.trans aU;refine aL (l.length-(i+1)) _ _ AC ⟨i+1,_,rfl,AC,aM _,rB ai9 (aM _) _,zd.add AC _ (by rw[(ZE m _ _).1]) ((ZE m _ _).2 zd.lt),aO⟩
  rw[bw,af,Za];cases xo:decide (0<(ft x 384).length)with
  |false=>
   rw[xo,af]at vY;have:=FW xo;rw[aZ];simp only[au,aq];grind
  |true=>
   rw[xo,ae]at vY;have alw:=mW xo;obtain⟨i2,o2,rfl⟩:=tz.1.cF (by simp[ints];omega);have fY:ar ((((ft x 384).length:Nat):Int)-1)=(((ft x 384).length-1:Nat):Int):=by rw[Zc];omega
   rw[aX,bc,fY,Zb (Zi),br,tz.1.dO (ZC),bj];have Kz:(ft x 384)[(ft x 384).length-1]' AC=(ft x 384).getLastD 0:=by
    rw[List.getLastD_eq_getLast?,List.getLast?_eq_getElem?,cu AC];rfl
   rw[Kz,vY];simp only[au,aq];exact hA
 .rw[aZ]
  simp only[Zd];rw[ly AC]at aO;rw[<-aO];exact .mk ⟨s,iM,_,_,rfl,dp⟩
def fm (v:Int):Nat:=(v%18446744073709551616).toNat
def sw (v:Int):UInt8:=UInt8.ofNat (v%256).toNat
theorem uf (v:Int):fm v<18446744073709551616:=by unfold fm;omega
theorem Gl (v:Int):IntKind.wrap .u64 v=(fm v:Int):=by
 have e:v=v/18446744073709551616*18446744073709551616+(fm v:Int):=by unfold fm;omega
 have h:=rE (uf v);have hm:IntKind.wrap .u64 v=v%18446744073709551616:=rfl;rw[hm];unfold fm;omega
theorem ZtV (v:Int):IntKind.wrap .u8 v=((sw v).toNat:Int):=by
 have hm:IntKind.wrap .u8 v=v%256:=rfl;rw[hm];unfold sw;show _=(((v%256).toNat%256:Nat):Int);omega
theorem ZqC (n:Nat) (v i:Nat) (hv:v<18446744073709551616) (st:St) (hi:i<1000) (hn:i+3<=n):
  Ok (λo=>o=(.val [.u ((v/256^i%256:Nat):Int)],st)) (run Bd n 248 [.w (v:Int),.i (i:Int)] st):=by
 obtain⟨n,rfl⟩: ∃k,n=k+2:=⟨n-2,AC⟩;rw[Ze,h.agh];unfold SX Cd Co Ar kM ZA lE;simp only[av,aq,Za];refine Zj _ (λq y s=>∃k:Nat,y=[.w ((v/256^k:Nat):Int),.i (k:Int)]/\k<=i/\i-k<=q/\s=st) ?_ i (n+1) _ _ ⟨0,by rw[Nat.pow_zero,Nat.div_one];rfl,cB _,AC,rfl⟩ AC;rintro q _ s ⟨k,rfl,hk,hq,rfl⟩ rec aL;simp only[av,aq];have hd:v/256^k<18446744073709551616:=DI (FR _ _) hv;by_cases aw:k<i
 .rw[aX]
  have h1:((v/256^k:Nat):Int).tdiv 256=((v/256^(k+1):Nat):Int):=by
   rw[u7,<-FQ];rfl
  have h2:v/256^(k+1)<18446744073709551616:=Fd
  rw[h1,rE h2,Zc];exact aL (i-(k+1)) _ _ AC Fd
 .rw[aZ]
  have:k=i:=AC
  subst this;rw[Zd];refine .mk ?_;have h1:((v/256^k:Nat):Int).tmod 256=((v/256^k%256:Nat):Int):=rfl;rw[h1];have h2:IntKind.wrap .u8 ((v/256^k%256:Nat):Int)=((v/256^k%256:Nat):Int):=by
   show((v/256^k%256:Nat):Int)%256=_;omega
  rw[h2]
theorem ZwT (v n:Nat):cZ v (n+1)=cZ v n++[UInt8.ofNat (v/256^n)]:=by
 rw[VQ];rfl
theorem ZvM (x:Nat) (_h:x<256):uq [.u (x:Int)]=some [UInt8.ofNat x]:=rfl
theorem sQ (n:Nat) (v k:Nat) (hv:v<18446744073709551616) (st:St) (hk:k<1000:=by omega) (hn:k+10<=n:=by omega):
  Ok (λo=>∃s',o=(.val [.str (cZ v k)],s')/\aA st s') (run Bd n 213 [.w (v:Int),.i (k:Int)] st):=by
 obtain⟨n,rfl⟩: ∃k,n=k+2:=⟨n-2,AC⟩;rw[Ze,h.afJ];unfold TL Cd ua vm Ls ZA kM eQ;simp only[av,aq,Za];refine Zj _ (λq y s=>∃i:Nat,y=[.str (cZ v i),.i (i:Int)]/\i<=k/\k-i<=q/\aA st s) ?_ k (n+1) _ _ ⟨0,rfl,cB _,AC,.refl st⟩ AC;rintro q _ s ⟨i,rfl,hi,hq,hp⟩ rec aL;simp only[bT,av,aq];by_cases aw:i<k
 .rw[aX]
  refine Ok.call (ZqC (n+1) v i hv s AC AC) ?_;rintro _ rfl;refine⟨_,s,rfl,?_⟩;rw[av,aq,Zz,Jh (by show 0+1<=1;omega)];show Ok _ (lJ [.u ((v/256^i%256:Nat):Int)] _ _);unfold lJ;rw[ZvM _ (Nat.mod_lt _ EQ)];simp only;rw[Zb (gz (by rw[Zy];show i+1<=_;omega)),Zc];refine aL (k-(i+1)) _ _ AC ⟨i+1,?_,AC,aM _,hp.trans (aA.new _ _)⟩;rw[ZwT];have:UInt8.ofNat (v/256^i%256)=UInt8.ofNat (v/256^i):=by
   refine Ii.1 ?_;simp
  rw[this];rfl
 .rw[aZ]
  have:i=k:=AC
  subst this;rw[Zd];exact .mk ⟨s,rfl,hp⟩
theorem Zsv (n:Nat) (x:Nat) (hx:x<4294967296) (st:St):run Bd (n+1) 288 [.y (x:Int)] st=some (.val [.y (oR x:Nat)],st):=by
 rw[Ze,h.agK];unfold T1 lD oR
 try dsimp only
 rw[av,aq];have h1:((x:Int).tmod 2==1)=decide (x%2=1):=by
  have e:(x:Int).tmod 2=((x%2:Nat):Int):=rfl;rw[e];by_cases h:x%2=1
  .rw[h,aS rfl];rfl
  grind
 have h2:(x:Int).tdiv 2=((x/2:Nat):Int):=rfl;rw[h1,h2,Ct];by_cases h:x%2=1
 .rw[aX h,bG h]
  have:=FK (x:=x/2) (y:=2197175160) AC;rw[show((2197175160:Nat):Int)=2197175160 from rfl]at this;rw[this];rfl
 .rw[aZ h,bq h];rfl
theorem Zq0 (n:Nat) (x k:Nat) (hx:x<4294967296) (st:St) (hk:k<1000) (hn:k+4<=n):
  Ok (λo=>o=(.val [.y (ZQ k x:Nat)],st)) (run Bd n 264 [.y (x:Int),.i (k:Int)] st):=by
 obtain⟨n,rfl⟩: ∃k,n=k+2:=⟨n-2,AC⟩;rw[Ze,h.agv];unfold Tb cW yA yk ta lD qz;simp only[av,aq,Za];have kX: ∀i,ZQ i x<4294967296:=λi=>by
  induction i with
  |zero=>exact hx
  |succ i ih=>rw[MM];exact Ztr ih
 refine Zj _ (λq y s=>∃i:Nat,y=[.y (ZQ i x:Int),.i (i:Int)]/\i<=k/\k-i<=q/\s=st) ?_ k (n+1) _ _ ⟨0,rfl,cB _,AC,rfl⟩ AC;rintro q _ s ⟨i,rfl,hi,hq,rfl⟩ rec aL;simp only[av,aq];by_cases aw:i<k
 .rw[aX,Zk (Zsv n _ (kX i) s)]
  rw[av,aq,<-MM,Zc];exact aL (k-(i+1)) _ _ AC Fd
 .rw[aZ]
  have:i=k:=AC
  subst this;rw[Zd];exact .mk rfl
theorem ZmD (n:Nat) (a:ai) (l:aj) (st:St) (ha:c9 st a l) (hl:l.length<1000000) (hn:l.length+20<=n):
  Ok (λo=>o=(.val [.y (pN l:Nat)],st)) (run Bd n 242 [.slice 1 a l.length] st):=by
 obtain⟨n,rfl⟩: ∃k,n=k+2:=⟨n-2,AC⟩;rw[Ze,h.aga];unfold UA bZ yA yk N_ mc ta lD qz
 try dsimp only
 rw[aV,aq,Za];refine Zj _ (λq y s=>∃(i:Nat),y=[.y (((l.take i).foldl tL 4294967295:Nat):Int),.i (i:Int)]/\i<=l.length/\l.length-i<=q/\s=st) ?_ l.length (n+1) _ _ Fd AC;rintro q _ s ⟨i,rfl,hi,hq,rfl⟩ rec aL;simp only[av,aq];have hx:=Jq (l.take i) (x:=4294967295) AC;by_cases aw:i<l.length
 .obtain⟨i1,o1,rfl⟩:=ha.cF AC
  have np:l[i]? =some l[i]:=cu aw;have fM:l.take (i+1)=l.take i++[l[i]]:=Do
  rw[aX,bc,Zb (Zi aw),br,ha.dO np,bj];have hc:=(l[i]).toNat_lt;rw[Ct,FK hx];refine Ok.call (Zq0 (n+1) _ 8 (Ig (n:=32) AC AC) s AC AC) ?_;rintro _ rfl;refine⟨_,s,rfl,?_⟩;rw[av,aq,Zc];refine aL (l.length-(i+1)) _ _ AC ⟨i+1,?_,AC,aM _,rfl⟩;rw[fM,xQ];rfl
 .rw[aZ]
  rw[Zd];rw[dF AC]at hx⊢;refine .mk ?_;have h1:(4294967295:Int)-((l.foldl tL 4294967295:Nat):Int)=(pN l:Int):=by unfold pN;omega
  rw[h1,Ct (NV l)]
def l9 (n:Nat):aj:=List.replicate n 0
def j3 (s:aj) (n:Nat):aj:=s++l9 (n-s.length)
def qb (kind tag:Int) (body:aj):aj:=[sw kind,sw tag,0,0]++j3 body 56
def ja (kind tag:Int) (body:aj):aj:=cZ (pN (qb kind tag body)) 4++qb kind tag body
theorem ZrD (n:Nat):iD n [.u 0]=bI (l9 n):=by
 simp[iD,l9,bI]
theorem Zsf (n:Nat) (s:aj) (k:Nat) (hs:s.length<1000000) (hk:k<1000000) (st:St):
  Ok (λo=>∃s',o=(.val [.str (j3 s k)],s')/\aA st s') (run Bd (n+1) 249 [.str s,.i (k:Int)] st):=by
 rw[Ze,h.agi];unfold Tw oi kM Ls
 try dsimp only
 rw[bT,av,aq];have hw:ar ((k:Int)-(s.length:Int))=(k:Int)-(s.length:Int):=Zc;have hd:(if (k:Int)-(s.length:Int)<0 then(0:Int)else(k:Int)-(s.length:Int))=((k-s.length:Nat):Int):=by
  split<;>omega
 rw[hw,hd,br,Zb (by rw[aY,aY,bn,bn,bn];omega),Zz,ZrD,Jh (by rw[Zs];simp[l9]),dE,dF (by rw[Zs];simp[l9]),<-lH,rf,Zb (gz (by grind[l9])),Zd];exact .mk ⟨_,rfl,aA.new _ _⟩
theorem BZ (n:Nat) (kind tag:Int) (body:aj) (hb:body.length<100000) (st:St) (hn:body.length+200<=n:=by omega):
  Ok (λo=>∃s',o=(.val [.str (ja kind tag body)],s')/\aA st s') (run Bd n 214 [.i kind,.i tag,.str body] st):=by
 obtain⟨n,rfl⟩: ∃k,n=k+2:=⟨n-2,AC⟩;rw[Ze,h.afK];unfold T4 jU jI ta iT eQ ba ZA Ls;simp only[bT,av,aq];have CU:([.u (IntKind.wrap .u8 kind),.u (IntKind.wrap .u8 tag),.u 0,.u 0]:ah)=bI [sw kind,sw tag,0,0]:=by
  rw[ZtV,ZtV];rfl
 rw[CU,Zz,Jh (by rw[Zs];show 0+4<=4;omega),dE,dF (by rw[Zs];show 4<=4;omega),<-lH,rf];refine Ok.cx (Zsf n body 56 AC AC _) λs1 aD=>?_
 rw[bT,aq];have hS:[sw kind,sw tag,0,0]++j3 body 56=qb kind tag body:=rfl;have hSl:(qb kind tag body).length=4+(j3 body 56).length:=Fd
 have alf:(j3 body 56).length<=body.length+56:=by
  simp[j3,l9]
 rw[Zb (gz (by show 4+_<=_;omega)),hS,Zz];refine Ok.call (ZmD (n+1) (some (s1.length,0)) (qb kind tag body) _ ⟨false,ZM (qb kind tag body),Do,Nat.le_of_eq (by rw[eJ,lH]),by rw[dE,lH,oY]⟩ AC AC) ?_;rintro _ rfl;refine⟨_,_,rfl,?_⟩;rw[av,aq];have hc:=NV (qb kind tag body);rw[rE];refine Ok.call (sQ (n+1) _ 4 AC _) ?_;rintro _ ⟨s2,rfl,aU⟩;refine⟨_,_,rfl,?_⟩;rw[bT,aq,Zb (gz (by rw[Zy];omega)),Zd];exact .mk ⟨s2,rfl,(((aA.new _ _).trans aD).trans (aA.new _ _)).trans aU⟩
theorem SB (n:Nat) (a:Int) (k:Nat) (hk:0<k) (jy:k<1000000000) (_ha: -9223372036854775808<=a/\a<=9223372036854775807) (st:St):run Bd (n+1) 179 [.i a,.i (k:Int)] st=some (.val [.i (a%(k:Int))],st):=by
 rw[Ze,h.afk];unfold Tx je Li;simp only[av,aq];have h0:(!((k:Int)==0))=true:=by rw[lT,eN];omega
 rw[Zb h0,Zb h0,Zd];have hb:=Int.tmod_lt_of_pos a (AC:(0:Int)<k);have dh: -(k:Int)<a.tmod k:=by
  have:=Int.neg_tmod a k;have h3:=Int.tmod_lt_of_pos (-a) (AC:(0:Int)<k);omega
 have hw:ar (a.tmod k+k)=a.tmod k+k:=Zc;rw[hw];have he:(a.tmod k+k).tmod k=a%k:=by
  rw[Int.tmod_eq_emod_of_nonneg AC,Int.add_emod_right];have e:a.tmod k=a+k*(-(a.tdiv k)):=by
   have:=Int.mul_tdiv_add_tmod a k;rw[Int.mul_neg];omega
  rw[e,Int.add_mul_emod_self_left]
 rw[he]
def jB (l:ak):aj:=(l.map λk=>cZ (fm k) 2).flatten
theorem uc (l:ak):(jB l).length=2*l.length:=by
 unfold jB;induction l with
 |nil=>rfl
 |cons k l ih=>rw[oe,BE,bz,Zy,ih,cQ];omega
theorem I3 (l:ak) (h:i<l.length):jB (l.take (i+1))=jB (l.take i)++cZ (fm l[i]) 2:=by
 unfold jB;rw[lV h,fB,H7];simp
def jZ (k:Int):Bool:=decide (k>=2)&&decide (k<=3071)
theorem Iv (n:Nat) (k:Int) (st:St):run Bd (n+1) 251 [.i k] st=some (.val [.bool (jZ k)],st):=by
 rw[Ze,h.agk];unfold TF cW az Lb jZ
 try dsimp only
 rw[av,aq,Za];cases decide (k>=2)<;>rfl
theorem Z5 {a b:Nat} (h:a<=b) (K:M β):aB (Nat.ble a b) K=K:=Zb (gz h) K
def P8 (x:jV):aj:=cZ (fm x.bL.key) 8++cZ (fm x.bL.value) 8++cZ (fm x.bL.slot) 4++cZ (fm x.bL.gen) 4++jB x.kids
def xJ (x:jV):aj:=ja 1 x.kids.length (P8 x)
theorem Zma (n:Nat) (x:jV) (z:Nat) (p:ai) (st:St) (hz:z=1\/p=none) (hs:Sl st p (ints x.kids)) (hl:x.kids.length<1000) (hn:2400<=n:=by omega):
  Ok (λo=>∃s',o=(.val [.str (xJ x)],s')/\aA st s') (run Bd n 250 [.agg (oP x z p)] st):=by
 obtain⟨n,rfl⟩: ∃k,n=k+2:=⟨n-2,AC⟩;rw[Ze,h.agj];unfold TR Gf jI Aa ua iT vm Zn ZA qm Ls eQ oP fk;simp only[od,iG];rw[da];simp only[av,Zf 1 z p _ hz,aq,Gl];refine Ok.cx (sQ (n+1) _ 8 (uf _) st) λs1 aD=>?_
 rw[bT,aq];refine Ok.cx (sQ (n+1) _ 8 (uf _) s1) λs2 aU=>?_
 rw[bT,aq,Z5 (by rw[Zy,Zy];omega)];refine Ok.cx (sQ (n+1) _ 4 (uf _) s2) λs3 cz=>?_
 rw[bT,aq,Z5 (by rw[bz,Zy,Zy,Zy];omega)];refine Ok.cn (sQ (n+1) _ 4 (uf _) s3) λs4 fe=>?_
 rw[bT,aq,Z5 (by rw[bz,bz,Zy,Zy,Zy,Zy];omega),Za];have hP:=((aD.trans aU).trans cz).trans fe;have⟨A,hA⟩: ∃A,cZ (fm x.bL.key) 8++cZ (fm x.bL.value) 8++cZ (fm x.bL.slot) 4++cZ (fm x.bL.gen) 4=A:=⟨_,rfl⟩;have yO:A.length=24:=by rw[<-hA];simp[Zy]
 rw[hA];refine Zj _ (λq y s=>∃i:Nat,y=[.str (A++jB (x.kids.take i)),.i (i:Int)]/\i<=x.kids.length/\x.kids.length-i<=q/\aA st s) ?_ x.kids.length (n+1) _ _ ⟨0,by rw[Ib];show _=[DV.str (A++[]),_];rw[gM];rfl,cB _,AC,hP⟩ AC;rintro q _ s ⟨i,rfl,hi,hq,iM⟩ rec aL;rw[bT,av,aq];by_cases aw:i<x.kids.length
 .have dI:=hs.mono iM
  obtain⟨i1,o1,rfl⟩:=dI.cF (by simp[ints];omega);rw[aX,bc,Zb (Zi aw),br,dI.dO (ZC aw),bj];refine Ok.cv (sQ (n+1) _ 2 (uf _) s) λs5 kb=>?_
  rw[bT,aq,Z5 (by rw[bz,uc,Zy,cR,yO];omega),Zc];refine aL (x.kids.length-(i+1)) _ _ AC ⟨i+1,by rw[I3 _ aw,fR];rfl,AC,aM _,iM.trans kb⟩
 .rw[aZ]
  rw[dF AC];refine Ok.cv (BZ (n+1) 1 x.kids.length (A++jB x.kids) (by rw[bz,uc];omega) s (by rw[bz,uc];omega)) λs5 kb=>?_
  rw[bT,aq,Zd];refine .mk ⟨s5,?_,iM.trans kb⟩;unfold xJ P8;rw[hA]
def xL (x:bB):Bool:= !(decide (x.gen<0)||decide (x.gen>4294967295))&&(bif x.live then decide (x.gen>0)&&jZ x.block else(decide (x.block>=0)&&decide (x.block<=1792))&&(!(x.gen==0)||x.block==0))
theorem Zst (n:Nat) (x:bB) (st:St):run Bd (n+2) 252 [.agg (eV x)] st=some (.val [.bool (xL x)],st):=by
 rw[Ze,h.agl];unfold Tk rr az bu Lb Li xL eV
 try dsimp only
 rw[da];simp only[au,av,aq,Za];have e0:=Iv n x.block st;cases decide (x.gen<0)with
 |true=>rfl
 |false=>
 cases decide (x.gen>4294967295)with
 |true=>rfl
 |false=>
 simp only[af,Bool.or_self,bp,dL];cases x.live with
 |true=>
  rw[ae];cases decide (x.gen>0)with
  |true=>
   rw[ae,Zk e0];rfl
  |false=>rfl
 |false=>
  rw[af];cases decide (x.block>=0)with
  |false=>rfl
  |true=>
   rw[ae,dL];cases decide (x.block<=1792)with
   |false=>rfl
   |true=>
    rw[ae,dL];cases(x.gen==0)with
    |true=>rfl
    |false=>rfl
def ow:List bB->aj
 |[]=>[]
 |x::r=>cZ (fm x.gen) 4++cZ (fm x.block) 4++ow r
def kt:Nat->List bB->Nat
 |_,[]=>0
 |k,x::r=>(bif x.live then 2^k else 0)+kt (k+1) r
theorem UR: ∀l:List bB,(ow l).length=8*l.length
 |[]=>rfl
 |x::r=>by rw[ow,bz,bz,Zy,Zy,UR r,cQ];omega
theorem Zpo: ∀l m:List bB,ow (l++m)=ow l++ow m
 |[],m=>rfl
 |x::r,m=>by rw[od,ow,ow,Zpo r m,<-fR]
theorem ZrU: ∀(k:Nat) (l m:List bB),kt k (l++m)=kt k l+kt (k+l.length) m
 |k,[],m=>by simp[kt]
 |k,x::r,m=>by rw[od,kt,kt,ZrU (k+1) r m,cQ,show k+1+r.length=k+(r.length+1) by omega,uZ]
theorem ZsZ: ∀(k:Nat) (l:List bB),kt k l+2^k<=2^(k+l.length)
 |k,[]=>by simp[kt]
 |k,x::r=>by
  have:=ZsZ (k+1) r;rw[kt,cQ,show k+(r.length+1)=k+1+r.length by omega];grind
def yo (l:List bB):Option (aj):=bif l.all xL then some (ja 2 (kt 0 l:Nat) (ow l))else none
def zL:Option (aj)->ah
 |some s=>[.str s,.bool true]
 |none=>[.str [],.bool false]
theorem ZlX (n:Nat) (l:List bB) (hl:l.length=7) (st:St) (hn:400<=n:=by omega):
  Ok (λo=>∃s',o=(.val (zL (yo l)),s')/\aA st s') (run Bd n 219 [.agg (ca l)] st):=by
 obtain⟨n,rfl⟩: ∃k,n=k+3:=⟨n-3,AC⟩;have⟨R,hR⟩: ∃R,yo l=R:=⟨_,rfl⟩;rw[hR];unfold yo at hR;rw[Ze,h.afP];unfold T2 oi iT je bu pA jI Aa qm wJ ZA Af Li eQ
 try dsimp only
 have cO:(ca l).length=21:=by rw[ZB,hl]
 rw[da,bK cO,aq,bK cO,Za];refine Zj _ (λq y s=>∃i:Nat,y=[.str (ow (l.take i)),.i ((kt 0 (l.take i):Nat):Int),.i (i:Int)]/\i<=7/\7-i<=q/\aA st s/\(l.take i).all xL=true) ?_ 7 (n+2) _ _ ⟨0,rfl,cB _,AC,.refl st,rfl⟩ AC;rintro q _ s ⟨i,rfl,hi,hq,iM,dt⟩ rec aL;simp only[bT,av,aq];by_cases aw:i<7
 .have uM:i<l.length:=AC
  have fM:l.take (i+1)=l.take i++[l[i]]:=Do
  have np:l[i]? =some l[i]:=cu uM;have CU:((ca l).drop (i*3)).take 3=eV l[i]:=Nt np;rw[aX,Zb (show aP (i:Int) 7=true from Zi aw),br,Z5 AC,CU];have gY:l[i]∈l:=ku uM;generalize l[i]=x at fM gY;rw[bK (cs:=eV x) (n:=3) rfl,Zk (Zst n x s),au,aq];cases hx:xL x with
  |false=>
   rw[bp,ae,Zd];have cD:l.all xL=false:=by
    rw[List.all_eq_false];grind
   rw[cD,af]at hR;rw[<-hR];exact .mk ⟨s,rfl,iM⟩
  |true=>
   rw[bw,af];unfold eV;rw[iu (d:= .bool x.live) rfl,sH];have uQ:=ZsZ 0 (l.take i);rw[cR,og AC,eJ]at uQ;have h7:2^i<=2^7:=oh EQ AC;have ahR:(l.take (i+1)).all xL=true:=by rw[fM,tT,dt];simp[hx]
   refine Ok.join λaH j7=>?_
   have hA:Ok (λo=>∃s',o=(.val (zL R),s')/\aA st s') (aH [.i ((kt 0 (l.take (i+1)):Nat):Int)] s):=by
    rw[j7];simp only[av,aq];rw[iu (d:= .i x.gen) rfl];simp only[bj,Gl];refine Ok.cx (sQ (n+2) _ 4 (uf _) s) λs1 aD=>?_
    rw[bT,aq];have dI:=UR (l.take i);rw[cR]at dI;rw[Z5 (by rw[dI,Zy];omega),iu (d:= .i x.block) rfl,bj];refine Ok.cn (sQ (n+2) _ 4 (uf _) s1) λs2 aU=>?_
    rw[bT,aq,Z5 (by rw[bz,dI,Zy,Zy];omega),Zc];refine aL (7-(i+1)) _ _ AC ⟨i+1,?_,AC,aM _,(iM.trans aD).trans aU,ahR⟩;rw[fM,Zpo];simp[ow]
   have Y1:kt 0 (l.take (i+1))=kt 0 (l.take i)+(bif x.live then 2^i else 0):=by
    rw[fM,ZrU,cR,og AC,eJ];simp[kt]
   cases eX:x.live with
   |false=>
    rw[eX,af]at Y1;have ajH:kt 0 (l.take i)=kt 0 (l.take (i+1)):=Y1.symm;rw[af,ajH];exact hA
   |true=>
    rw[eX,ae]at Y1;rw[ae,Zb (aS AC),og AC];have e1:ar (1*2^i)=((2^i:Nat):Int):=by
     rw[Int.one_mul,show((2:Int)^i)=((2^i:Nat):Int) by push_cast;rfl];exact Zc
    rw[e1,Zc];grind
 .rw[aZ]
  rw[dF AC]at dt⊢;rw[dt,ae]at hR;have dI:=UR l;refine Ok.cv (BZ (n+2) 2 (kt 0 l:Nat) (ow l) AC s) λs1 aD=>?_
  rw[bT,aq,Zd,<-hR];exact .mk ⟨s1,rfl,iM.trans aD⟩
def vx (l:ak):Option (aj):=bif l.all λk=>k==0||jZ k then some (ja 3 0 (jB l))else none
theorem TH (n:Nat) (l:ak) (hl:l.length=16) (st:St) (hn:400<=n:=by omega):
  Ok (λo=>∃s',o=(.val (zL (vx l)),s')/\aA st s') (run Bd n 218 [.agg (ints l)] st):=by
 obtain⟨n,rfl⟩: ∃k,n=k+3:=⟨n-3,AC⟩;have⟨R,hR⟩: ∃R,vx l=R:=⟨_,rfl⟩;rw[hR];unfold vx at hR;rw[Ze,h.afO];unfold TS ua iT vm az bu qm wJ ZA eQ Li Lb Ls
 try dsimp only
 have cO:(ints l).length=16:=by simp[ints,hl]
 rw[da,bK cO,aq,bK cO,Za];refine Zj _ (λq y s=>∃i:Nat,y=[.str (jB (l.take i)),.i (i:Int)]/\i<=16/\16-i<=q/\aA st s/\((l.take i).all λk=>k==0||jZ k)=true) ?_ 16 (n+2) _ _ ⟨0,rfl,cB _,AC,.refl st,rfl⟩ AC;rintro q _ s ⟨i,rfl,hi,hq,iM,dt⟩ rec aL;rw[bT,av,aq];by_cases aw:i<16
 .have uM:i<l.length:=AC
  have fM:l.take (i+1)=l.take i++[l[i]]:=Do
  have Ht:(ints l)[i*1]? =some (.i l[i]):=by rw[cS];exact ZC uM
  have gY:l[i]∈l:=ku uM;have KA:=I3 l uM;have Ym:aP (i:Int) 16=true:=Zi aw;rw[aX,br,Zb Ym,iu Ht,bj];generalize l[i]=x at fM Ht gY KA;refine Ok.join λaH j7=>?_
  have cD:(x==0||jZ x)=false->Ok (λo=>∃s',o=(.val (zL R),s')/\aA st s') ((ax [.str (bs []),.bool false]:M ah) s):=λe=>by
   have cD:(l.all λk=>k==0||jZ k)=false:=by
    rw[List.all_eq_false];grind
   rw[cD,af]at hR;rw[<-hR,Zd];exact .mk ⟨s,rfl,iM⟩
  have ac5:(x==0||jZ x)=true->Ok (λo=>∃s',o=(.val (zL R),s')/\aA st s') (aH [.bool false] s):=λe=>by
   rw[j7];simp only[au,aq];rw[af,Zb Ym,iu Ht,bj,Gl];refine Ok.cv (sQ (n+2) _ 2 (uf _) s) λs1 aD=>?_
   rw[bT,aq,Z5 (by rw[uc,Zy,cR];omega),Zc];refine aL (16-(i+1)) _ _ AC ⟨i+1,by rw[KA];rfl,AC,aM _,iM.trans aD,?_⟩;rw[fM,tT,dt];simpa using e
  cases h0:(x==0)with
  |true=>
   rw[bw,af];grind
  |false=>
   rw[bp,ae,Zb Ym,iu Ht,bj,Zk (Iv (n+1) x s),au,aq];cases hb:jZ x with
   |true=>grind
   |false=>
    rw[j7];simp only[au,aq,bp,ae];grind
 .rw[aZ]
  rw[dF AC]at dt⊢;rw[dt,ae]at hR;have dI:=uc l;refine Ok.cv (BZ (n+2) 3 0 (jB l) AC s) λs1 aD=>?_
  rw[bT,aq,Zd,<-hR];exact .mk ⟨s1,rfl,iM.trans aD⟩
def zI (x:ZH):aj:=ja 5 x.name.length (cZ (fm x.mask) 4++jB x.dH++x.name)
theorem Zmy (n:Nat) (x:ZH) (hl:x.dH.length=12) (hm:x.name.length<60000) (st:St) (hn:x.name.length+500<=n):
  Ok (λo=>∃s',o=(.val [.str (zI x)],s')/\aA st s') (run Bd n 216 [.agg (Z1 x)] st):=by
 obtain⟨n,rfl⟩: ∃k,n=k+3:=⟨n-3,AC⟩;rw[Ze,h.afM];unfold Ug iT ua vm ZA qm Ls eQ Z1
 try dsimp only
 have cO:(ints x.dH).length=12:=by simp[ints,hl]
 rw[da,bT,av,bK cO,aq,bK (n:=14) (by simp[cO])];simp only[Gl];refine Ok.cv (sQ (n+2) _ 4 (uf _) st) λs0 oK=>?_
 rw[bT,aq,Za];have hA:(cZ (fm x.mask) 4).length=4:=Zy _ _;unfold zI;generalize cZ (fm x.mask) 4=A at hA;refine Zj _ (λq y s=>∃i:Nat,y=[.str (A++jB (x.dH.take i)),.i (i:Int)]/\i<=12/\12-i<=q/\aA st s) ?_ 12 (n+2) _ _ ⟨0,by rw[Ib];show _=[DV.str (A++[]),_];rw[gM];rfl,cB _,AC,oK⟩ AC;rintro q _ s ⟨i,rfl,hi,hq,iM⟩ rec aL;simp only[bT,av,aq];by_cases aw:i<12
 .have uM:i<x.dH.length:=AC
  have Ht:(ints x.dH)[i*1]? =some (.i x.dH[i]):=by rw[cS];exact ZC uM
  rw[aX,br,Zb (show aP (i:Int) 12=true from Zi aw),iu Ht,bj];refine Ok.cv (sQ (n+2) _ 2 (uf _) s) λs1 aD=>?_
  rw[bT,aq,Z5 (by rw[bz,hA,uc,Zy,cR];omega),Zc];exact aL (12-(i+1)) _ _ AC ⟨i+1,by rw[I3 _ uM,fR];rfl,AC,aM _,iM.trans aD⟩
 .rw[aZ]
  rw[dF AC];have dI:=uc x.dH;rw[Z5 (by rw[bz];omega)];refine Ok.cv (BZ (n+2) 5 x.name.length (A++jB x.dH++x.name) (by rw[bz,bz];omega) s (by rw[bz,bz];omega)) λs1 aD=>?_
  rw[bT,aq,Zd];exact .mk ⟨s1,rfl,iM.trans aD⟩
def th:ak->Nat->Bool
 |_l,0=>true
 |l,i+1=>th l i&&(jZ (l.getD i 0)&& !decide (l.getD i 0∈l.take i))
def yw (l:ak):Option (aj):=bif decide (1<=l.length)&&(decide (l.length<=16)&&th l l.length)then some (ja 6 l.length (jB l))else none
theorem ZsI {l:ak} : ∀ {i j:Nat},i<=j->th l j=true->th l i=true
 |i,0,h,e=>by
  grind
 |i,j+1,h,e=>by
  by_cases mI:i=j+1
  .subst mI;exact e
  .unfold th at e
   rw[aY]at e;exact ZsI AC e.1
theorem Zm5 (n:Nat) (l:ak) (z:Nat) (p:ai) (st:St) (hz:z=1\/p=none) (hs:Sl st p (ints l)) (hl:l.length<1000:=by omega) (hn:2500<=n:=by omega):
  Ok (λo=>∃s',o=(.val (zL (yw l)),s')/\aA st s') (run Bd n 215 [.slice z p l.length] st):=by
 obtain⟨n,rfl⟩: ∃k,n=k+3:=⟨n-3,AC⟩;have⟨R,hR⟩: ∃R,yw l=R:=⟨_,rfl⟩;rw[hR];unfold yw at hR;rw[Ze,h.afL];unfold Uv bZ az ua iT vm Zn bu Q_ cN wJ qm eQ Li ZA Ls Lb
 try dsimp only
 rw[Zf 1 z p _ hz,aq,Za];have mO: ∀s,aA st s->R=none->Ok (λo=>∃s',o=(.val (zL R),s')/\aA st s') ((ax [.str (bs []),.bool false]:M ah) s):=λs iM e=>by
  rw[e,Zd];exact .mk ⟨s,rfl,iM⟩
 by_cases h1:1<=l.length;rotate_left
 .rw[aX]
  simp only[au,aq,ae];refine mO st (.refl st) ?_;rw[bM h1,gu,af]at hR;exact hR.symm
 by_cases tq:l.length<=16;rotate_left
 .rw[aZ,aS (AC:(l.length:Int)>16)]
  simp only[au,aq,ae];refine mO st (.refl st) ?_;rw[bM tq,gu,DD,af]at hR;exact hR.symm
 rw[aS h1,aS tq,dL,dL]at hR;rw[aZ,bM (AC:¬(l.length:Int)>16)];simp only[au,aq];rw[af,Za];have aiG: ∀i,i<=l.length->th l i=false->R=none:=λi hi e=>by
  cases hf:th l l.length with
  |true=>rw[ZsI hi hf]at e;cases e
  |false=>rw[hf,af]at hR;exact hR.symm
 refine Zj _ (λq y s=>∃i:Nat,y=[.str (jB (l.take i)),.i (i:Int)]/\i<=l.length/\l.length-i<=q/\aA st s/\th l i=true) ?_ l.length (n+2) _ _ ⟨0,rfl,cB _,AC,.refl st,rfl⟩ AC;rintro q _ s ⟨i,rfl,hi,hq,iM,dt⟩ rec aL;rw[bT,av,aq];by_cases aw:i<l.length
 .have dI:=hs.mono iM
  obtain⟨i1,o1,rfl⟩:=dI.cF (by simp[ints];omega);have yW:l.getD i 0=l[i]:=by rw[ef,cu aw];rfl
  have KA:=I3 l aw;have eL:th l (i+1)=(jZ l[i]&& !decide (l[i]∈l.take i)):=by
   show(th l i&&_)=_;rw[dt,dL,yW]
  have di:(ints l)[i]? =some (.i l[i]):=ZC aw;rw[aX,Za,bc,Zb (Zi aw),br,dI.dO di,bj];have⟨x,hx⟩: ∃x,l[i]=x:=⟨_,rfl⟩;rw[hx]at di KA eL⊢;rw[Zk (Iv (n+1) x s),au,aq];cases hb:jZ x with
  |false=>
   rw[bp,ae];grind
  |true=>
   rw[bw,af,Za];refine Zj _ (λq y t=>∃k:Nat,y=[.i (k:Int)]/\k<=i/\i-k<=q/\t=s/\x∉l.take k) ?_ i (n+2) _ _ Fd AC;rintro q2 _ t ⟨k,rfl,hk,Fa,rfl,oH⟩ dC kf;simp only[av,aq];by_cases hlk:k<i
   .have jy:k<l.length:=AC
    have vR:(ints l)[k]? =some (.i l[k]):=ZC jy;rw[aX,bc,Zb (Zi jy),br,dI.dO vR,bj,bc,Zb (Zi aw),dI.dO di,bj];by_cases he:l[k]=x
    .rw[show(l[k]==x)=true by rw[he];grind,ae]
     refine mO t iM (aiG (i+1) AC ?_);have:x∈l.take i:=by
      rw[<-he];exact List.mem_take_iff_getElem.2 ⟨k,AC,rfl⟩
     rw[eL,aS this,bw,DD]
    .rw[show(l[k]==x)=false from eN.2 he,af,Zc]
     refine kf (i-(k+1)) _ _ AC ⟨k+1,rfl,AC,aM _,rfl,?_⟩;rw[lV jy];grind
   .rw[aZ]
    have:k=i:=AC
    subst this;rw[bc,Zb (Zi aw),dI.dO di,bj,Gl];refine Ok.cv (sQ (n+2) _ 2 (uf _) t) λs1 aD=>?_
    rw[bT,aq,Z5 (by rw[uc,Zy,cR];omega),Zc];exact aL (l.length-(k+1)) _ _ AC ⟨k+1,by rw[KA];rfl,AC,aM _,iM.trans aD,by rw[eL,hb,bM oH];rfl⟩
 .rw[aZ]
  have:i=l.length:=AC
  subst this;rw[oY];rw[dt,ae]at hR;have dI:=uc l;refine Ok.cv (BZ (n+2) 6 l.length (jB l) AC s) λs1 aD=>?_
  rw[bT,aq,Zd,<-hR];exact .mk ⟨s1,rfl,iM.trans aD⟩
theorem SF (n a e:Nat) (ha:a<100000) (he:0<e) (tt:e<1000) (st:St) (hn:a+10<=n:=by omega):
  Ok (λo=>o=(.val [.i (((a+e-1)/e:Nat):Int)],st)) (run Bd n 220 [.i (a:Int),.i (e:Int)] st):=by
 obtain⟨n,rfl⟩: ∃k,n=k+2:=⟨n-2,AC⟩;rw[Ze,h.afQ];unfold Tz je pA cN Li;simp only[av,aq,Za];have hm:(a+e-1)/e<=a:=by
  rcases BI a with h0|h0
  .subst h0
   rw[eJ,Nat.div_eq_of_lt AC];exact aM _
  .refine Nat.div_le_of_le_mul ?_
   have:1*(e-1)<=a*(e-1):=FT _ h0;have h2:e*a=a+a*(e-1):=by
    obtain⟨f,rfl⟩: ∃f,e=f+1:=⟨e-1,AC⟩;rw[Nat.add_sub_cancel,wG,Nat.one_mul,DJ f];omega
   omega
 have O7: ∀k,k*e<a↔k<(a+e-1)/e:=λk=>by
  rw[Nat.lt_iff_add_one_le,Nat.lt_iff_add_one_le,Nat.le_div_iff_mul_le he,wG,Nat.one_mul];omega
 generalize (a+e-1)/e=m at hm O7;refine Zj _ (λq y s=>∃k:Nat,y=[.i (k:Int)]/\k<=m/\m-k<=q/\s=st) ?_ m (n+1) _ _ Fd AC;rintro q _ s ⟨k,rfl,hk,hq,rfl⟩ rec aL;rw[av,aq];have hke:k*e<=100000*1000:=Nat.mul_le_mul AC AC;have hw:ar ((k:Int)*(e:Int))=((k*e:Nat):Int):=by
  rw[show((k:Int)*(e:Int))=((k*e:Nat):Int) by push_cast;rfl];exact Zc
 rw[hw];have:=O7 k;by_cases aw:k*e<a
 .rw[aX,Zc]
  exact aL (m-(k+1)) _ _ AC Fd
 .rw[aZ]
  have jy:k=m:=by
   omega
  rw[jy,Zd];exact .mk rfl
theorem ZjF (n a:Nat) (s g:Int) (ha:a<100000) (st:St) (hn:a+20<=n:=by omega):
  Ok (λo=>o=(.val [.i (((a+383)/384:Nat):Int)],st)) (run Bd n 196 [.agg [.i (a:Int),.i s,.i g]] st):=by
 obtain⟨n,rfl⟩: ∃k,n=k+2:=⟨n-2,AC⟩;rw[Ze,h.afv];unfold Sb D9 cA gA Li
 try dsimp only
 rw[da,av,aq];refine Ok.call (SF (n+1) a 384 ha EQ EQ st) ?_;rintro _ rfl;refine⟨_,st,rfl,?_⟩;rw[av,aq,Zd];exact .mk rfl
theorem ZjL (n a:Nat) (ha:a<100000) (st:St) (hn:a+20<=n:=by omega):
  Ok (λo=>o=(.val [.i (((a+6)/7:Nat):Int)],st)) (run Bd n 266 [.i (a:Int)] st):=by
 obtain⟨n,rfl⟩: ∃k,n=k+2:=⟨n-2,AC⟩;rw[Ze,h.agx];unfold RK cW cA gA Li
 try dsimp only
 rw[av,aq];refine Ok.call (SF (n+1) a 7 ha EQ EQ st) ?_;rintro _ rfl;refine⟨_,st,rfl,?_⟩;rw[av,aq,Zd];exact .mk rfl
def pQ (a:Nat):Nat:=if a=0 then 0 else((a+6)/7+15)/16+1
theorem Zr0 (n a:Nat) (ha:a<100000) (st:St) (hn:a+40<=n):
  Ok (λo=>o=(.val [.i (pQ a:Int)],st)) (run Bd n 268 [.i (a:Int)] st):=by
 obtain⟨n,rfl⟩: ∃k,n=k+2:=⟨n-2,AC⟩;rw[Ze,h.agz];unfold To cW cA Li gA pQ
 try dsimp only
 rw[av,aq];by_cases h0:a=0
 .subst h0
  rw[bG rfl];exact .mk rfl
 .rw[bq h0,show((a:Int)==0)=false from eN.2 AC,af]
  refine Ok.call (ZjL (n+1) a ha st) ?_;rintro _ rfl;refine⟨_,st,rfl,?_⟩;rw[av,aq];refine Ok.call (SF (n+1) ((a+6)/7) 16 AC EQ EQ st) ?_;rintro _ rfl;refine⟨_,st,rfl,?_⟩;rw[av,aq,Zd];refine .mk ?_;rw[Zc];rfl
theorem or8 {x:Nat} (hx:x<256) (hy:y<256):bits .or .u8 (x:Int) (y:Int)=((x|||y:Nat):Int):=by
 show IntKind.wrap .u8 ((BitVec.ofInt 8 (x:Int)|||BitVec.ofInt 8 (y:Int)).toNat:Int)=_;have e: ∀z:Nat,z<256->(BitVec.ofInt 8 (z:Int)).toNat=z:=Do
 rw[BitVec.toNat_or,e x hx,e y hy];have h:x|||y<256:=Fd
 show((x|||y:Nat):Int)%256=_;omega
def yx (b:aj) (k:Nat):aj:=b.set (k/8) (UInt8.ofNat ((b.getD (k/8) 0).toNat|||2^(k%8)))
theorem MY (b:aj) (k:Nat):(yx b k).length=b.length:=by simp[yx]
def inPlace (p:Nat) (x:Int):Bool:=decide (x>=((384*p:Nat):Int))&&decide (x<((384*p+384:Nat):Int))
def uj (p:Nat):aj->ak->aj
 |b,[]=>b
 |b,x::r=>uj p (bif inPlace p x then yx b (x-((384*p:Nat):Int)).toNat else b) r
def gx (p:Nat) (l:ak):ZS:=⟨p,uj p (List.replicate 48 0) l⟩
theorem IJ (p:Nat): ∀(l:ak) (b:aj),(uj p b l).length=b.length
 |[],_=>rfl
 |x::r,b=>by
  unfold uj;rw[IJ p r];cases inPlace p x with
  |true=>exact MY b _
  |false=>rfl
theorem Zzo (b:aj) (k:Nat) (c:UInt8):bI (b.set k c)=(bI b).set k (.u c.toNat):=by
 simp[bI]
theorem ZlY (n p:Nat) (l:ak) (a:ai) (z:Nat) (st:St) (hz:z=1\/a=none) (hs:Sl st a (ints l)) (hp:p<1000) (hl:l.length<100000) (hx: ∀x∈l,0<=x/\x<1000000) (hn:l.length+10<=n):
  Ok (λo=>o=(.val [.agg (Z0 (gx p l))],st)) (run Bd n 192 [.i (p:Int),.slice z a l.length] st):=by
 obtain⟨n,rfl⟩: ∃k,n=k+2:=⟨n-2,AC⟩;rw[Ze,h.afr];unfold Tq bZ cW Zn az kM Lb
 try dsimp only
 rw[av,Zf 1 z a _ hz,aq,Za];have cM:ar (384*(p:Int))=((384*p:Nat):Int):=by
  rw[show(384*(p:Int))=((384*p:Nat):Int) by omega];exact Zc
 have fY:ar (((384*p:Nat):Int)+384)=((384*p+384:Nat):Int):=by
  rw[Zc];omega
 rw[cM,fY];have⟨G,hG⟩: ∃G,uj p (List.replicate 48 0) l=G:=⟨_,rfl⟩;have hR:gx p l=⟨p,G⟩:=by unfold gx;rw[hG]
 rw[hR];refine Zj _ (λq y s=>∃(i:Nat) (b:aj),y=[.agg (.i (p:Int)::bI b),.i (i:Int)]/\i<=l.length/\l.length-i<=q/\s=st/\b.length=48/\uj p b (l.drop i)=G) ?_ l.length (n+1) _ _ ⟨0,List.replicate 48 0,rfl,cB _,AC,rfl,oV,hG⟩ AC;rintro q _ s ⟨i,b,rfl,hi,hq,rfl,hb,aO⟩ rec aL;have iz:(bI b).length=48:=by rw[Zs,hb]
 rw[da];simp only[av,aq];rw[bK iz];by_cases aw:i<l.length
 .obtain⟨i1,o1,rfl⟩:=hs.cF (by simp[ints];omega)
  have di:(ints l)[i]? =some (.i l[i]):=ZC aw;have gj:l.drop i=l[i]::l.drop (i+1):=jd aw;have gY:l[i]∈l:=ku aw;rw[gj]at aO;have⟨x,PR⟩: ∃x,l[i]=x:=⟨_,rfl⟩;rw[PR]at di aO gY;have⟨PQ,Bj⟩:=hx x gY;unfold uj at aO;rw[aX,bc,Zb (Zi aw),br,hs.dO di,bj];have jO:ar ((i:Int)+1)=((i+1:Nat):Int):=Zc;rw[jO];refine Ok.join λaH j7=>?_
  have hA: ∀c,inPlace p x=c->Ok (λo=>o=(.val [.agg (Z0 ⟨p,G⟩)],s)) (aH [.bool c] s):=by
   intro c hc;rw[j7];simp only[au,aq];rw[hc]at aO;rw[Za];cases c with
   |false=>
    rw[af]at aO;rw[af];show Ok _ (bh [.agg (.i (p:Int)::bI b)] _ s);rw[da,av,bK iz,aq];exact aL (l.length-(i+1)) _ _ AC Fd
   |true=>
    rw[ae]at aO;unfold inPlace at hc;rw[aY,bn,bn]at hc;have⟨k,hk⟩: ∃k:Nat,x-((384*p:Nat):Int)=(k:Int):=Fd
    rw[hk,br]at aO;have Ld:ar (x-((384*p:Nat):Int))=(k:Int):=by rw[hk];exact Zc
    have hdv:ar ((k:Int).tdiv 8)=((k/8:Nat):Int):=by
     rw[show(k:Int).tdiv 8=((k/8:Nat):Int)from rfl];exact Zc
    have lL:(k:Int).tmod 8=((k%8:Nat):Int):=rfl;rw[ae,bc,Zb (Zi aw),hs.dO di];simp only[bj,Ld,hdv,lL,br];have hk8:k/8<48:=AC
    have AW:b[k/8]? =some (b.getD (k/8) 0):=by
     rw[ef,cu AC];rfl
    have Ki:=(b.getD (k/8) 0).toNat_lt;rw[Zb (show aP ((k/8:Nat):Int) 48=true from Zi hk8),iu (i:=k/8*1) (by rw[cS];exact VN AW),bj,Zb (aS AC),Zb (show aP ((k/8:Nat):Int) 48=true from Zi hk8),Z5 AC];have h28:2^(k%8)<=2^7:=oh EQ AC;have K5:IntKind.wrap .u8 (1*2^(min (k%8) 8))=((2^(k%8):Nat):Int):=by
     rw[og AC,Int.one_mul,show((2:Int)^(k%8))=((2^(k%8):Nat):Int) by push_cast;rfl];generalize 2^(k%8)=w at h28;show(w:Int)%256=_;omega
    rw[K5,or8 Ki AC];have hor:(b.getD (k/8) 0).toNat|||2^(k%8)<256:=Nat.or_lt_two_pow (n:=8) Ki AC;have dp:cG (bI b) (k/8*1) [.u (((b.getD (k/8) 0).toNat|||2^(k%8):Nat):Int)]=bI (yx b k):=by
     rw[cS,Ce _ _ _ AC];unfold yx;rw[Zzo];congr 2;show _=(((((b.getD (k/8) 0).toNat|||2^(k%8))%256:Nat)):Int);omega
    rw[dp];show Ok _ (bh [.agg (.i (p:Int)::bI (yx b k))] _ s);rw[da,av];have Hw:(bI (yx b k)).length=48:=by rw[Zs,MY,hb]
    rw[bK Hw,aq];exact aL (l.length-(i+1)) _ _ AC ⟨i+1,yx b k,rfl,AC,aM _,rfl,by rw[MY,hb],aO⟩
  cases uJ:decide (x>=((384*p:Nat):Int))with
  |false=>
   rw[af];exact hA false (by unfold inPlace;rw[uJ,gu])
  |true=>
   rw[ae,bc,Zb (Zi aw),hs.dO di,bj];exact hA _ (by unfold inPlace;rw[uJ,dL])
 .rw[aZ]
  rw[ly AC]at aO;rw[da,av,bK iz,aq,bK (by simp[iz]),Zd];refine .mk ?_;rw[<-aO];rfl
def ui (x:ZS):aj:=ja 4 x.no x.dR
theorem ZmY (n:Nat) (x:ZS) (hl:x.dR.length=48) (st:St) (hn:400<=n:=by omega):
  Ok (λo=>∃s',o=(.val [.str (ui x)],s')/\aA st s') (run Bd n 193 [.agg (Z0 x)] st):=by
 obtain⟨n,rfl⟩: ∃k,n=k+2:=⟨n-2,AC⟩;rw[Ze,h.afs];unfold Ui Zm iT qm Ls Z0
 try dsimp only
 have iz:(bI x.dR).length=48:=by rw[Zs,hl]
 rw[da,av,bK iz,aq,bK (n:=49) (by simp[iz]),Zz,Zo (i:=st.length) (f:=false) (all:= .i x.no::bI x.dR) (d:= .i x.no) Do rfl,bj];have dt:(DV.int .i64 x.no::bI x.dR).length=49:=by simp[iz]
 rw[Jh (by rw[dt];omega),Jh (by rw[dt];omega)];have Hg:(List.drop 1 (DV.int .i64 x.no::bI x.dR)).take 48=ZM x.dR:=by
  rw[List.drop_succ_cons,dE,dF AC,lH]
 rw[Hg,rf];refine Ok.cv (BZ (n+1) 4 x.no x.dR AC _) λs1 aD=>?_
 rw[bT,aq,Zd];exact .mk ⟨s1,rfl,(aA.new _ _).trans aD⟩
structure pB (x:cy):Prop where
 s0:1<=x.seq
 s1:x.seq<=4611686018427387904
 g:pS x.blocks x.dc x.g=true
 u0:0<=x.used
 u1:x.used<=x.dc
 f0:0<=x.free
 f1:x.free<=x.used
 t0:x.used=0->x.cm=0
 t1:0<x.used->nW x x.cm=true
 d:x.dir≠0->nW x x.dir=true
 len:(x.aJ.length:Int)=Av x.blocks x.dc x.g
 ch: ∀i,i<x.aJ.length->nW x (x.aJ.getD i 0)=true/\x.aJ.getD i 0∉x.aJ.take i
theorem Zs2 (x:cy):rp x=true↔ ∀i,i<x.aJ.length->nW x (x.aJ.getD i 0)=true/\x.aJ.getD i 0∉x.aJ.take i:=by
 simp[rp]
theorem Ai (x:cy):ZT x=true↔pB x:=by
 unfold ZT;rw[aY,aY,Zs2,lT,lT];simp only[BB,xV,L5];constructor
 .rintro⟨⟨a1,a2,a3,a4,a5,a6,a7⟩,⟨b1,b2,b3,b4⟩,c⟩
  refine⟨AC,AC,a3,AC,AC,AC,AC,λh=>?_,λh=>?_,λh=>?_,?_,c⟩
  .rw[h]at b1
   simpa using b1
  .rw[aX h]at b2
   simpa using b2
  .rw[show(x.dir==0)=false from eN.2 h,bp,ae]at b3
   simpa using b3
  .simpa using b4
 .intro h
  refine⟨⟨by have:=h.s0;omega,by have:=h.s1;omega,h.g,by have:=h.u0;omega,by have:=h.u1;omega,by have:=h.f0;omega,by have:=h.f1;omega⟩,⟨?_,?_,?_,?_⟩,h.ch⟩
  .by_cases hu:x.used=0
   .rw[h.t0 hu];cases(x.used==0)<;>rfl
   grind
  .by_cases hu:0<x.used
   .rw[h.t1 hu];cases decide (x.used>0)<;>rfl
   grind
  .by_cases hu:x.dir=0
   .rw[hu];rfl
   .rw[h.d hu];cases(!(x.dir==0))<;>rfl
  simp[h.len]
theorem V6 (x:cy) (k:Int):nW x k=true↔2<=k/\k<x.blocks:=by
 simp[nW]
theorem UF {b s g:Int} (h:pS b s g=true):Av b s g=(((b.toNat+383)/384:Nat):Int):=by
 have⟨g1,g2,_⟩:=ZR h;unfold Av qS;rw[h,ae];obtain⟨m,rfl⟩: ∃m:Nat,b=m:=⟨b.toNat,AC⟩;rw[br,Zc (x:=(m:Int)+384),Zc (x:=(m:Int)+384-1),show((m:Int)+384-1)=((m+383:Nat):Int) by omega,show(((m+383:Nat):Int).tdiv 384)=(((m+383)/384:Nat):Int)from rfl];exact Zc
theorem Zzl {Q:Out ah×St->Prop} {Kn:ah->M ah} (n:Nat) (b:Int) (l:ak) (p:ai) (s:St) (hs:Sl s p (ints l)) (hl:l.length<5000) (hn:l.length<n)
  (cD: ∀k∈l,¬(2<=k/\k<b)->Ok Q ((ax [.bool false]:M ah) s)) (ac5:(∀k∈l,2<=k/\k<b)->Ok Q (Kn [] s)):
  Ok Q (cY (λaQ st=>
       aC .i64 st λi st=>
      aI st<|
      bif decide (i<(l.length:Int))then
       bJ p λi1 o=>
      aB (aP i l.length)<|
      bD i1 (i.toNat*1+o) λd=>
      de .i64 d λx=>
      cT (λst=>gK st λb7 st=>aI st<|
       bif b7 then
       ax [.bool false]
      else
       aQ [.i (ar (i+1))]) λlh=>
      bif decide (x<2)then
       lh [.bool true]
      else
       bJ p λi2 o1=>
      aB (aP i l.length)<|
      bD i2 (i.toNat*1+o1) λd1=>
      de .i64 d1 λx1=>
      lh [.bool (decide (x1>=b))]
      else
       Kn []) n [.i 0] s):=by
 refine Zj _ (λq y t=>∃i:Nat,y=[.i (i:Int)]/\i<=l.length/\l.length-i<=q/\t=s/\∀k∈l.take i,2<=k/\k<b) ?_ l.length n _ _ Fd hn;rintro q _ t ⟨i,rfl,hi,hq,rfl,dt⟩ rec aL;rw[av,aq];by_cases aw:i<l.length
 .obtain⟨i1,o1,rfl⟩:=hs.cF (by simp[ints];omega)
  have di:(ints l)[i]? =some (.i l[i]):=ZC aw;have fM:l.take (i+1)=l.take i++[l[i]]:=lV aw;have gY:l[i]∈l:=ku aw;rw[aX,bc,Zb (Zi aw),br,hs.dO di,bj];generalize l[i]=x at di fM gY;rw[Za];by_cases h2:x<2
  .rw[aX h2]
   simp only[au,aq,ae];grind
  .rw[aZ h2,bc,Zb (Zi aw),hs.dO di]
   simp only[bj,au,aq];by_cases h3:x>=b
   .rw[aX h3]
    grind
   .rw[aZ h3,Zc]
    refine aL (l.length-(i+1)) _ _ AC ⟨i+1,rfl,AC,aM _,rfl,λk hk=>?_⟩;rw[fM]at hk;grind
 .rw[aZ]
  rw[dF AC]at dt;exact ac5 dt
theorem RP (n:Nat) (x:cy) (p:ai) (st:St) (hs:Sl st p (ints x.aJ)) (hl:x.aJ.length<1000:=by omega) (hn:5000<=n:=by omega):
  Ok (λo=>∃s',o=(.val [.bool (ZT x)],s')/\aA st s') (run Bd n 195 [.agg (dq x p)] st):=by
 obtain⟨n,rfl⟩: ∃k,n=k+2:=⟨n-2,AC⟩;rw[Ze,h.afu];unfold S8 yd az fJ Q_ cN Zn kB mq bu Lb Li ep ba vw dq
 try dsimp only
 rw[da];simp only[av,aV,aq];have hF: ∀s,aA st s->¬pB x->Ok (λo=>∃s',o=(.val [.bool (ZT x)],s')/\aA st s') ((ax [.bool false]:M ah) s):=λs hp e=>by
  have:ZT x=false:=by
   cases hs:ZT x with
   |false=>rfl
   |true=>exact absurd ((Ai x).1 hs) e
  rw[this,Zd];exact .mk ⟨s,rfl,hp⟩
 rw[Za];by_cases h1:x.seq<1
 .rw[aX h1]
  simp only[au,aq];rw[Za,ae];simp only[au,aq];rw[ae];exact hF st (.refl st) λk=>by have:=k.s0;omega
 rw[aZ h1];simp only[au,aq];rw[Za];by_cases h2:x.seq>4611686018427387904
 .rw[aX h2]
  simp only[au,aq];rw[ae];exact hF st (.refl st) λk=>by have:=k.s1;omega
 rw[aZ h2,Zk (ZkN n x.blocks x.dc x.g st)];simp only[au,aq];cases hg:pS x.blocks x.dc x.g with
 |false=>
  rw[bp,ae];exact hF st (.refl st) λk=>by have:=k.g;rw[hg]at this;cases this
 |true=>
 have⟨g1,g2,g3,g4,g5,g6⟩:=ZR hg;rw[bw,af,Za];by_cases h3:x.used<0
 .rw[aX h3]
  simp only[au,aq];rw[Za,ae];simp only[au,aq];rw[Za,ae];simp only[au,aq];rw[Za,ae];simp only[au,aq];rw[ae];exact hF st (.refl st) λk=>by have:=k.u0;omega
 rw[aZ h3];by_cases h4:x.used>x.dc
 .rw[aS h4]
  simp only[au,aq];rw[Za,ae];simp only[au,aq];rw[Za,ae];simp only[au,aq];rw[Za,ae];simp only[au,aq];rw[ae];exact hF st (.refl st) λk=>by have:=k.u1;omega
 rw[bM h4];simp only[au,aq];rw[Za,af];by_cases h5:x.free<0
 .rw[aS h5]
  simp only[au,aq];rw[Za,ae];simp only[au,aq];rw[Za,ae];simp only[au,aq];rw[ae];exact hF st (.refl st) λk=>by have:=k.f0;omega
 rw[bM h5];simp only[au,aq];rw[Za,af];by_cases h6:x.free>x.used
 .rw[aS h6]
  simp only[au,aq];rw[Za,ae];simp only[au,aq];rw[ae];exact hF st (.refl st) λk=>by have:=k.f1;omega
 rw[bM h6];simp only[au,aq];rw[Za,af];have⟨m,hm⟩: ∃m:Nat,x.blocks=m:=⟨x.blocks.toNat,AC⟩;have yT:=UF hg;rw[hm,br]at yT;rw[hm];refine Ok.JR (ZjF (n+1) m x.dc x.g AC st) ?_;rintro _ rfl;refine⟨_,st,rfl,?_⟩;simp only[av,au,aq];by_cases h7:(x.aJ.length:Int)=(((m+383)/384:Nat):Int);rotate_left
 .rw[show((x.aJ.length:Int)==(((m+383)/384:Nat):Int))=false from eN.2 h7,bp,ae]
  exact hF st (.refl st) λk=>by have:=k.len;rw[hm,yT]at this;exact h7 this
 rw[show((x.aJ.length:Int)==(((m+383)/384:Nat):Int))=true by rw[h7];simp,bw,af];have eL: ∀k,nW x k=true↔2<=k/\k<(m:Int):=λk=>by rw[V6,hm]
 refine Ok.join λgU Ys=>?_
 have A7: ∀(q:ai) (z:Nat) (l:ak) (s:St),bg st s q (ints l)->(z=1\/q=none)->l.length<=1->(x.used=0->x.cm=0)->(l=if x.used=0 then[]else[x.cm])->Ok (λo=>∃s',o=(.val [.bool (ZT x)],s')/\aA st s') (gU [.slice z q l.length] s):=by
  intro q z l s ho hz nn HJ hle;rw[Ys];simp only[Zf 1 z q _ hz,aq];refine Ok.join λiN Yt=>?_
  have A8: ∀(q:ai) (l:ak) (s:St),bg st s q (ints l)->l.length<=2->(l=(if x.used=0 then[]else[x.cm])++(if x.dir=0 then[]else[x.dir]))->Ok (λo=>∃s',o=(.val [.bool (ZT x)],s')/\aA st s') (iN [.slice 1 q l.length] s):=by
   intro q l s ho nN hle;rw[Yt];simp only[aV,aq];refine Ok.join λiO O9=>?_
   have ah6: ∀i k,i<x.aJ.length->k<i->x.aJ[k]? =x.aJ[i]? ->¬pB x:=λi k hi hk e hS=>by
    have:=(hS.ch i hi).2;rw[ef,cu hi]at this;refine this (List.mem_take_iff_getElem.2 ⟨k,AC,?_⟩);rw[cu AC,cu hi]at e;exact Ih e
   refine Zj _ (λr y t=>∃(i z:Nat) (q:ai),y=[.slice z q (l++x.aJ.take i).length,.i (i:Int)]/\(z=1\/q=none)/\i<=x.aJ.length/\x.aJ.length-i<=r/\bg st t q (ints (l++x.aJ.take i))/\∀j,j<i->x.aJ.getD j 0∉x.aJ.take j) ?_ x.aJ.length (n+1) _ _ ⟨0,1,q,Do,.inl rfl,cB _,AC,by simpa using ho,AC⟩ AC;rintro r _ t ⟨i,z,q,rfl,hz,hi,hr,ho,O2⟩ rec aL;simp only[av,Zf 1 z q _ hz,aq];have cd:=hs.mono ho.1;by_cases aw:i<x.aJ.length
   .obtain⟨i1,o1,rfl⟩:=hs.cF (by simp[ints];omega)
    have di:(ints x.aJ)[i]? =some (.i x.aJ[i]):=ZC aw;have fM:x.aJ.take (i+1)=x.aJ.take i++[x.aJ[i]]:=lV aw;rw[aX,Za,bc,Zb (Zi aw),br,cd.dO di,bj];have gD:(l++x.aJ.take i).length<=2000:=by rw[bz,cR];omega
    have⟨q2,t2,dj,rZ,he⟩:=ho.Dt (β:=ah) (sz:=1) (n:=(l++x.aJ.take i).length) (lim:=8796093022208) [.i x.aJ[i]] (xU 0) (by simp[ints]) rfl AC;refine Eq.mpr (congrArg (Ok _) (he _)) ?_;rw[Za];have Ff:=hs.mono dj.1;refine Zj _ (λq y u=>∃k:Nat,y=[.i (k:Int)]/\k<=i/\i-k<=q/\u=t2/\x.aJ[i]∉x.aJ.take k) ?_ i (n+1) _ _ ⟨0,rfl,cB _,AC,rfl,Do⟩ AC;rintro r2 _ u ⟨k,rfl,hk,iB,rfl,oH⟩ dC kf;rw[av,aq];by_cases hlk:k<i
    .have jy:k<x.aJ.length:=AC
     have vR:(ints x.aJ)[k]? =some (.i x.aJ[k]):=ZC jy;rw[aX,bc,Zb (Zi jy),br,Ff.dO vR];simp only[bj];rw[bc,Zb (Zi aw),Ff.dO di];simp only[bj];by_cases he:x.aJ[k]=x.aJ[i]
     .rw[show(x.aJ[k]==x.aJ[i])=true by rw[he];exact zZ _,ae]
      exact hF u dj.1 (ah6 i k aw hlk (by rw[cu jy,cu aw,he]))
     .rw[show(x.aJ[k]==x.aJ[i])=false from eN.2 he,af,Zc]
      refine kf (i-(k+1)) _ _ AC ⟨k+1,rfl,AC,aM _,rfl,?_⟩;rw[lV jy];intro lM;rcases gI.1 lM with lM|lM
      .exact oH lM
      .exact he (cE.1 lM).symm
    .rw[aZ]
     have:k=i:=AC
     subst this;simp only[aV,aq];rw[Zc];refine aL (x.aJ.length-(k+1)) _ _ AC ⟨k+1,1,q2,?_,.inl rfl,AC,aM _,?_,λj hj=>?_⟩
     .rw[fM,<-fR,bz (as:=l++x.aJ.take k)];rfl
     .rw[fM,<-fR]
      unfold ints at dj⊢;rw[fB (l₁:=l++x.aJ.take k)];exact dj
     .by_cases vU:j=k
      .subst vU
       rw[ef,cu aw];exact oH
      .exact O2 j AC
   .rw[aZ]
    have:i=x.aJ.length:=AC
    subst this;rw[oY]at ho⊢;rw[O9];simp only[aV,aq];refine Ok.join λkG Yq=>?_
    refine Zzl (Kn:=kG) (n+1) m (l++x.aJ) q t ho.sl (by rw[bz];omega) (by rw[bz];omega) ?_ ?_
    .intro k hk He
     refine hF t ho.1 λhS=>He ?_
     rw[<-eL];rcases gI.1 hk with hk|hk
     .rw[hle]at hk
      rcases gI.1 hk with hk|hk
      .by_cases hu:x.used=0
       .rw[bG hu]at hk;cases hk
       .rw[bq hu]at hk;rw[cE.1 hk];exact hS.t1 AC
      .by_cases hu:x.dir=0
       .rw[bG hu]at hk;cases hk
       .rw[bq hu]at hk;rw[cE.1 hk];exact hS.d hu
     .obtain⟨i,hi,rfl⟩:=List.mem_iff_getElem.1 hk
      have:=(hS.ch i hi).1;rw[ef,cu hi]at this;exact this
    .intro dt
     have:ZT x=true:=by
      refine(Ai x).2 ⟨AC,AC,hg,AC,AC,AC,AC,HJ,λhu=>?_,λhu=>?_,by rw[hm,yT];exact h7,λi hi=>⟨?_,O2 i hi⟩⟩
      .rw[eL]
       exact dt _ (gI.2 (.inl (by rw[hle,bq AC];simp)))
      .rw[eL]
       exact dt _ (gI.2 (.inl (by rw[hle,bq hu];simp)))
      .rw[eL,ef,cu hi]
       exact dt _ (gI.2 (.inr (ku hi)))
     rw[Yq];simp only[aq];rw[this,Zd];exact .mk ⟨t,rfl,ho.1⟩
  by_cases yU:x.dir=0
  .rw[show(!(x.dir==0))=false by rw[yU];rfl,af]
   grind
  .rw[show(!(x.dir==0))=true by rw[lT];grind,ae]
   have⟨q2,t2,dj,rZ,he⟩:=ho.Dt (β:=ah) (sz:=1) (n:=l.length) (lim:=8796093022208) [.i x.dir] (xU 0) (by simp[ints]) rfl AC;refine Eq.mpr (congrArg (Ok _) (he _)) ?_;have:=A8 q2 (l++[x.dir]) t2 (by unfold ints at dj⊢;rw[fB];exact dj) (by simp;omega) (by rw[bq yU,<-hle]);rw[bz]at this;exact this
 by_cases uR:x.used=0
 .rw[show(x.used==0)=true by rw[uR];rfl,ae]
  by_cases hfn:x.cm=0
  .rw[show(!(x.cm==0))=false by rw[hfn];rfl,af]
   exact A7 none 0 [] st (bg.nil (.refl st)) (.inr rfl) Do (λ_=>hfn) (by rw[bG uR])
  .rw[show(!(x.cm==0))=true by rw[lT];grind,ae]
   exact hF st (.refl st) λk=>hfn (k.t0 uR)
 .rw[show(x.used==0)=false from eN.2 uR,af]
  have⟨q2,t2,dj,rZ,he⟩:=(bg.nil (.refl st)).Dt (β:=ah) (sz:=1) (n:=0) (lim:=8796093022208) [.i x.cm] (xU 0) rfl rfl AC;refine Eq.mpr (congrArg (Ok _) (he _)) ?_;exact A7 q2 1 [x.cm] t2 dj (.inl rfl) Do (λe=>absurd e uR) (by rw[bq uR])
theorem ZA1 (k m:Nat) (hk:k<64) (h:2^k*(2*m+1)<18446744073709551616):bits .and .u64 ((2^k*(2*m+1):Nat):Int) (IntKind.wrap .u64 (0-((2^k*(2*m+1):Nat):Int)))=((2^k:Nat):Int):=by
 have hp:0<2^k*(2*m+1):=Fd
 have hn:=ZAd k m 64 hk AC;generalize 2^k*(2*m+1)=w at h hp hn⊢;have e:IntKind.wrap .u64 (0-(w:Int))=((2^64-w:Nat):Int):=by
  show(0-(w:Int))%18446744073709551616=_;omega
 rw[e,ZxE h,hn]
def HZ (k:Nat):Nat:=(2^k*285870213051353865%18446744073709551616)/288230376151711744
def aa3 (d:Option DV) (k:Nat):Bool:=match d with
 |some (.u n)=>n==(k:Int)
 |_=>false
theorem ZAj {d:Option DV} (h:aa3 d k=true):d=some (.u (k:Int)):=by
 unfold aa3 at h;grind
theorem ZwB: ∀k,k<64->HZ k<64/\aa3 (Qr[HZ k]?) k=true:=by decide+kernel
theorem ZAz (k:Nat) (h:k<64):HZ k<64/\Qr[HZ k]? =some (.u (k:Int)):=⟨(ZwB k h).1,ZAj (ZwB k h).2⟩
theorem Zyy (x c:Nat):(IntKind.wrap .u64 ((x:Int)*(c:Int))).fdiv (2^58)=((x*c%18446744073709551616/288230376151711744:Nat):Int):=by
 have e1:((x:Int)*(c:Int))=((x*c:Nat):Int):=by push_cast;rfl
 have e2:(2:Int)^58=((288230376151711744:Nat):Int):=EQ
 rw[e1,ZzQ,e2,uh]
theorem adG:QU Bd:=by
 intro n k m st ht hk hw;rw[Ze,h.e86];have hand:=ZA1 k m hk hw;have hp:0<2^k*(2*m+1):=Fd
 generalize 2^k*(2*m+1)=w at hand hp hw;have⟨h1,h2⟩:=ZAz k hk;have K5:(IntKind.wrap .u64 (((2^k:Nat):Int)*285870213051353865)).fdiv (2^58)=(HZ k:Int):=Zyy (2^k) 285870213051353865;unfold Ir Xe;rw[av,aq,hand,K5,show((w:Int)==0)=false from eN.2 AC,af,Zb (show aP (HZ k:Int) 64=true from Zi h1),br,cS,gQ,Zo (i:=2) (f:=true) (all:=Qr) (d:= .u (k:Int)) (ht 2 _ rfl) h2,bj,Zd,Zc]
end Go.Gv.F
