/- States alike: the program's own comparison. -/
import Derived.Test.YtjcghijjmhhldaaGreatDoorGvZMc
set_option linter.all false
namespace Go.Gv.F
open Go.Gv
variable {β:Type}
theorem AI (w j:Nat):gQ w j=w.testBit j:=by rw[Nat.testBit_eq_decide_div_mod_eq];rfl
theorem Zqp: ∀(w:Nat),0<w->∃k m,w=2^k*(2*m+1)
 |0,h=>absurd h EQ
 |w+1,_=>by
  by_cases h:(w+1)%2=1
  .exact⟨0,(w+1)/2,AC⟩
  .have⟨k,m,e⟩:=Zqp ((w+1)/2) AC
   exact⟨k+1,m,by rw[Nat.pow_succ,Nat.mul_right_comm,<-e];omega⟩
termination_by w=>w
decreasing_by omega
theorem sK (k a j:Nat):(2^k*a).testBit j=(decide (k<=j)&&a.testBit (j-k)):=by
 rw[Nat.testBit_two_pow_mul]
theorem AP (m i:Nat):(2*m+1).testBit i=(decide (i=0)||(2*m).testBit i):=by
 cases i with
 |zero=>simp[Nat.testBit_zero]
 |succ i=>
  rw[Nat.testBit_succ,Nat.testBit_succ,show(2*m+1)/2=m by omega,show 2*m/2=m by omega];simp
theorem ZnK (m:Nat):(2*m).testBit 0=false:=by simp[Nat.testBit_zero]
theorem Zsx (k a b j:Nat) (h:b<2^k):(2^k*a+b).testBit j=if j<k then b.testBit j else a.testBit (j-k):=by
 rw[Nat.testBit_two_pow_mul_add a h]
theorem ZsX (k m:Nat):2^k*(2*m+1)&&& (2^k*(2*m+1)-1)=2^k*(2*m):=by
 have hp:0<2^k:=Nat.two_pow_pos k;have e:2^k*(2*m+1)-1=2^k*(2*m)+(2^k-1):=by rw[Nat.mul_add,cL];omega
 rw[e];refine Nat.eq_of_testBit_eq λj=>?_
 rw[Nat.testBit_and,sK,Zsx k _ _ j AC,sK];by_cases hj:j<k
 .rw[aK AC];simp
 grind[AP,ZnK]
theorem Ztr (k m n:Nat) (hk:k<n) (h:2^k*(2*m+1)<2^n):2^k*(2*m+1)&&& (2^n-2^k*(2*m+1))=2^k:=by
 have hn:2^n=2^k*(2*2^(n-k-1)):=by rw[<-Nat.pow_succ',<-Nat.pow_add];congr 1;omega
 rw[hn]at h⊢;have hm:2*m+1<2*2^(n-k-1):=Nat.lt_of_mul_lt_mul_left h;have oY:m<2^(n-k-1):=AC
 rw[<-Nat.mul_sub,show 2*2^(n-k-1)-(2*m+1)=2*(2^(n-k-1)-(m+1))+1 by omega];refine Nat.eq_of_testBit_eq λj=>?_
 rw[Nat.testBit_and,sK,sK,Nat.testBit_two_pow,AP,AP];by_cases hj:k<=j
 .rw[aI hj]
  by_cases h0:j=k
  .subst h0;simp
  .rw[aK (AC:¬k=j),aK (AC:¬j-k=0)]
   have⟨i,hi⟩: ∃i,j-k=i+1:=⟨j-k-1,AC⟩;rw[hi,Nat.testBit_succ,Nat.testBit_succ,Nat.mul_div_cancel_left _ EQ,Nat.mul_div_cancel_left _ EQ,Nat.testBit_two_pow_sub_succ oY];cases m.testBit i<;>simp
 grind
def oa (w:Nat):al:=(List.range 64).filter (gQ w)
theorem Zq7:oa 0=[]:=by
 rfl
theorem ZrC (k n:Nat) (h:k<n):List.range n=List.range k++k::List.range' (k+1) (n-k-1):=by
 have:n=k+(1+(n-k-1)):=AC
 rw[List.range_eq_range',List.range_eq_range']
 conv=>lhs;rw[this]
 rw[<-List.range'_append_1,oz 1,List.range'_succ,ei]
theorem ZqO (k m:Nat) (hk:k<64):oa (2^k*(2*m+1))=k::oa (2^k*(2*m)):=by
 unfold oa;rw[ZrC k 64 hk,xp,xp,List.filter_cons,List.filter_cons];have h1: ∀a,(List.range k).filter (gQ (2^k*a))=[]:=λa=>by
  rw[List.filter_eq_nil_iff];grind[AI,sK]
 have h2:gQ (2^k*(2*m+1)) k=true:=by rw[AI,sK,AP];simp
 have h3:gQ (2^k*(2*m)) k=false:=by rw[AI,sK,mO,ZnK];simp
 rw[h1,h1,h2,h3,bO rfl,cG EQ,mN,mN];refine congrArg (k:: ·) (List.filter_congr λj hj=>?_);rw[AI,AI,sK,sK,AP,aK (show ¬j-k=0 by have:=List.mem_range'_1.1 hj;omega)];rfl
theorem KQ (w:Nat):(oa w).length<=64:=by
 have:=List.length_filter_le (gQ w) (List.range 64);rw[z6]at this;exact this
def rj:Nat->al->ak
 |_,[]=>[]
 |b,w::r=>(oa w).map (λj=>((b*64+j:Nat):Int))++rj (b+1) r
def iD (W:al):ak:=rj 0 W
theorem Zmd: ∀(b:Nat) (W:al),(rj b W).length<=64*W.length
 |_,[]=>aW _
 |b,w::r=>by
  unfold rj;have:=Zmd (b+1) r;have:=KQ w;rw[cq,dE,eK];omega
theorem ZlC: ∀(b:Nat) (W:al) (w:Nat),rj b (W++[w])=rj b W++(oa w).map (λj=>(((b+W.length)*64+j:Nat):Int))
 |b,[],w=>by simp[rj]
 |b,x::r,w=>by
  rw[qN];unfold rj;rw[ZlC (b+1) r w,gX,eK,Nat.add_right_comm b 1,oy b]
variable {f g:Bool} {i i2 j j2 k m m2 y:Nat}
theorem Zrn (W:al) (h:i<W.length):iD (W.take (i+1))=iD (W.take i)++(oa W[i]).map (λj=>((i*64+j:Nat):Int)):=by
 unfold iD;rw[pE h,ZlC,dh,je AC,ei]
def uq (Bd:Ze):Prop:=∀(n k m:Nat) (st:St),kL st->k<64->2^k*(2*m+1)<18446744073709551616->run Bd (n+1) 86 [.w ((2^k*(2*m+1):Nat):Int)] st=some (.val [.i (k:Int)],st)
theorem Zr9 {a b:Nat} (ha:a<18446744073709551616) (hb:b<18446744073709551616:=by omega):bits .and .u64 (a:Int) (b:Int)=((a&&& b:Nat):Int):=O5 ha hb
theorem IF (W:al) (i:Nat):(iD (W.take i)).length<=64*W.length:=by
 have h1:=Zmd 0 (W.take i);grind[iD]
variable {Bd:Ze} [h:HA Bd]
theorem Zkg (hz:uq Bd) (n:Nat) {W:al} (st:St) (ht:kL st) (hs:dT st f i j m W) (hn:80<=n:=by omega):
  Ok (λo=>∃p s',o=(.val [.slice 1 p (iD W).length],s')/\ax st s'/\Sl s' p (ints (iD W))/\∀b∈aC p,st.length<=b) (run Bd n 172 [.ptr (some (i,0))] st):=by
 obtain⟨n,rfl⟩: ∃k,n=k+2:=⟨n-2,AC⟩;rw[Zb,h.RZ];unfold Ix ck jx oG ZF aX bh gj cV Li lT
 try dsimp only
 rw[bF,ao,aD,Zf hs.hd rfl];simp only[eH,Zi];have hle:=hs.le;have hlen:=hs.len;refine Zn _ (λq y s=>∃(a z:Nat) (p:ah),y=[.slice z p (iD (W.take a)).length,.i a]/\(z=1\/p=none)/\a<=W.length/\W.length-a<=q/\bn st s p (ints (iD (W.take a)))) ?_ W.length (n+1) _ _ ⟨0,0,none,rfl,.inr rfl,eB _,AC,bn.nil (.refl st)⟩ AC;rintro q _ s ⟨a,z,p,rfl,hzp,ha,hq,ho⟩ rec aQ;simp only[ar,Zr 1 z p _ hzp,ao];have ib:=hs.pre ho.1;by_cases aw:a<W.length
 .rw[aI (AC:(a:Int)<(W.length:Int)),aa,aD,Zg (Zo aw),bw]
  have mB:=hs.lt _ (nP aw);rw[Zf (d:= .w (W[a]:Nat)) ib.wd (by rw[cL,dK];simp[Zm,aw]),bm];have zA:=Zrn W aw;have hA:=IF W a;generalize iD (W.take a)=A at ho zA hA;generalize W[a]=w at mB zA;have cD:aq ((a:Int)+1)=((a+1:Nat):Int):=Zc;have fR:aq ((a:Int)*64)=((a*64:Nat):Int):=by rw[Zc];omega
  rw[cD,fR];have⟨F,hF⟩: ∃F:Nat->Int,(λj=>((a*64+j:Nat):Int))=F:=⟨_,rfl⟩;rw[hF]at zA;refine Zn _ (λq' y t=>∃(w' z':Nat) (D:al) (p':ah),y=[.slice z' p' (A++D.map F).length,.w (w':Int)]/\(z'=1\/p'=none)/\w'<18446744073709551616/\D++oa w'=oa w/\(oa w').length<=q'/\bn st t p' (ints (A++D.map F))) ?_ 64 (n+1) _ _ ⟨w,1,[],p,by rw[List.map_nil,gE],.inl rfl,mB,rfl,KQ w,by rw[List.map_nil,gE];exact ho⟩ AC;rintro q' _ t ⟨w',z',D,p',rfl,V5,QA,hD,u5,zm⟩ gv Co;simp only[ar,Zr 1 z' p' _ V5,ao];by_cases wS:w'=0
  .subst wS
   rw[show(!(((0:Nat):Int)==0))=false from rfl,ae,bd,ao];rw[Zq7,gE]at hD;rw[hD,<-zA]at zm⊢;exact aQ (W.length-(a+1)) _ _ AC ⟨a+1,1,p',rfl,.inl rfl,AC,aW _,zm⟩
  .have hnz:(!((w':Int)==0))=true:=by rw[nN,iG];omega
   have⟨k,m',e⟩:=Zqp w' AC;have hk:k<64:=by
    rcases jd k 64 with h|h
    .exact h
    .have h1:2^64<=2^k:=xC EQ h
     have h2:2^k*1<=2^k*(2*m'+1):=Nat.mul_le_mul_left _ AC;omega
   rw[hnz,aa];subst e;rw[Zj (hz n k m' t (ht.mono zm.1) hk QA),ar,ao];have mA:aq (((a*64:Nat):Int)+(k:Int))=F k:=by rw[<-hF];exact Zc
   rw[mA];have NZ:IntKind.wrap .u64 (((2^k*(2*m'+1):Nat):Int)-1)=((2^k*(2*m'+1)-1:Nat):Int):=by
    have h1:(((2^k*(2*m'+1):Nat):Int)-1)=((2^k*(2*m'+1)-1:Nat):Int):=AC
    rw[h1];exact rl
   have gB:bits .and .u64 (((2^k*(2*m'+1):Nat):Int)) (IntKind.wrap .u64 (((2^k*(2*m'+1):Nat):Int)-1))=((2^k*(2*m'):Nat):Int):=by
    rw[NZ,Zr9 QA,ZsX]
   rw[gB];rw[ZqO k m' hk]at hD u5;have hlD:(A++D.map F).length<=1000000:=by
    have h1:=congrArg List.length hD;rw[cq]at h1;have:=KQ w;rw[cq,dE];omega
   have⟨p2,s2,dA,zh,he⟩:=zm.CQ (β:=af) (sz:=1) (n:=(A++D.map F).length) (lim:=8796093022208) [.i (F k)] (vz 0) (by simp[ints]) rfl AC;refine Eq.mpr (congrArg (Ok _) (he _)) ?_;refine Co (oa (2^k*(2*m'))).length _ _ (by simp at u5;omega) ⟨_,1,D++[k],p2,?_,.inl rfl,?_,by rw[gX];exact hD,aW _,?_⟩
   .rw[fb,<-gX,cq (as:=A++D.map F)];rfl
   .have:2^k*(2*m')<=2^k*(2*m'+1):=Nat.mul_le_mul_left _ AC
    omega
   .rw[fb,<-gX]
    unfold ints at dA⊢;rw[fb (l₁:=A++D.map F)];exact dA
 .rw[aK (AC:¬(a:Int)<(W.length:Int)),ae]
  rw[bd,ao,Zh];rw[dJ AC]at ho⊢;refine .mk ⟨p,s,rfl,ho.1,ho.sl,λb hb=>?_⟩;rcases ho.2 with⟨rfl,_⟩|⟨i',rfl,h1,_⟩
  .cases hb
  .rw[cA.1 hb];exact h1
def QW (x:Int):Int:=match HW (λ_ _=>fail) 0 [.w x] []with
 |some (.val [.int _ v],_)=>v
 |_=>0
theorem Zon (n:Nat) (x:Int) (st:St):run Bd (n+1) 210 [.w x] st=some (.val [.i (QW x)],st):=by
 rw[Zb,h.Sq];rfl
def LY:Int->al->Int
 |a,[]=>a
 |a,w::r=>LY (aq (a+QW w)) r
def yw (W:al):Int:=LY 0 W
theorem Zjk (n:Nat) {W:al} (st:St) (hs:dT st f i j m W) (hn:80<=n:=by omega):Ok (λo=>o=(.val [.i (yw W)],st)) (run Bd n 183 [.ptr (some (i,0))] st):=by
 obtain⟨n,rfl⟩: ∃k,n=k+2:=⟨n-2,AC⟩;rw[Zb,h.R9];unfold Iq ck jg bQ ZF aX Li cV gH
 try dsimp only
 rw[bF,ao,aD,Zf hs.hd rfl,eH,Zi];have hle:=hs.le;have hlen:=hs.len;refine Zn _ (λq y s=>∃(a:Nat) (c:Int),y=[.i c,.i a]/\a<=W.length/\W.length-a<=q/\s=st/\LY c (W.drop a)=yw W) ?_ W.length (n+1) _ _ ⟨0,0,rfl,eB _,AC,rfl,rfl⟩ AC;rintro q _ s ⟨a,c,rfl,ha,hq,rfl,hc⟩ rec aQ;simp only[ar,ao];by_cases aw:a<W.length
 .rw[aI (AC:(a:Int)<(W.length:Int)),aa,aD,Zg (Zo aw),bw]
  rw[Zf (d:= .w (W[a]:Nat)) hs.wd (by rw[cL,dK];simp[Zm,aw]),bm,Zj (Zon n _ s),ar,ao];have cD:aq ((a:Int)+1)=((a+1:Nat):Int):=Zc;rw[cD];refine aQ (W.length-(a+1)) _ _ AC ⟨a+1,_,rfl,AC,aW _,rfl,?_⟩;rw[<-hc,il aw];rfl
 .rw[aK (AC:¬(a:Int)<(W.length:Int)),ae]
  rw[Zh];rw[sE AC]at hc;exact .mk (by rw[<-hc];rfl)
theorem Zm5 (n:Nat) (W V:al) (a b:Nat) (f g:Bool) (st:St) (ha:st[a]? =some (some ⟨f,Zm W⟩)) (hb:st[b]? =some (some ⟨g,Zm V⟩)) (hW:W.length<100000) (hn:W.length+3<=n):
  Ok (λo=>o=(.val [.bool (decide (W=V))],st)) (run Bd n 236 [.slice 1 (some (a,0)) W.length,.slice 1 (some (b,0)) V.length] st):=by
 obtain⟨n,rfl⟩: ∃k,n=k+2:=⟨n-2,AC⟩;rw[Zb,h.SJ];unfold Hi bG Q_ bY ZF Lb Li;simp only[bd,ao];have no:W≠V->Ok (λo=>o=(.val [.bool (decide (W=V))],st)) ((au [.bool false]:M af) st):=by
  intro hm;rw[Zh];exact .mk (by rw[aK hm])
 by_cases hlen:W.length=V.length;rotate_left
 .rw[show((W.length:Int)==(V.length:Int))=false from iG.2 AC,cy,aa]
  grind
 rw[show((W.length:Int)==(V.length:Int))=true by rw[hlen];simp,bU,ae,Zi];refine Zn _ (λk v s=>∃i:Nat,v=[.i i]/\i<=W.length/\W.length-i<=k/\s=st/\∀j,j<i->W[j]? =V[j]?) ?_ W.length (n+1) _ _ Fd AC;rintro k _ s ⟨i,rfl,hi,hk,rfl,gq⟩ rec aQ;simp only[ar,ao];by_cases aw:i<W.length
 .have kX:i<V.length:=AC
  rw[aI (AC:(i:Int)<(W.length:Int)),aa,aD,Zg (Zo aw),bw,Zf (d:= .w (W[i]:Nat)) ha (by rw[cL,dK];simp[Zm,aw]),bm,aD,Zg (Zo kX),Zf (d:= .w (V[i]:Nat)) hb (by rw[cL,dK];simp[Zm,kX]),bm];by_cases hw:W[i]=V[i]
  .rw[show(((W[i]:Nat):Int)==((V[i]:Nat):Int))=true by rw[hw];simp,bU,ae,Zc]
   refine aQ (W.length-(i+1)) _ _ AC ⟨i+1,rfl,AC,AC,rfl,λj hj=>?_⟩;by_cases tD:j<i
   .exact gq j tD
   grind
  grind
 .rw[aK (AC:¬(i:Int)<(W.length:Int)),ae,Zh]
  refine .mk ?_;have:W=V:=xo λj=>by
   by_cases hj:j<i
   .exact gq j hj
   grind
  rw[aI this]
theorem Zkc (n:Nat) {W V:al} (st:St) (hs:dT st f i j m W) (j3:dT st g i2 j2 m2 V) (hn:80<=n:=by omega):
  Ok (λo=>o=(.val [.bool (decide (m=m2)&&decide (W=V))],st)) (run Bd n 202 [.ptr (some (i,0)),.ptr (some (i2,0))] st):=by
 obtain _|n:=n;omega;rw[Zb,h.Sj];unfold Ii ck Zl aB bA Lb;simp only[bF,ao,aD];rw[Zf hs.hd rfl,bm,Zf j3.hd rfl,bm,Zi];have hle:=hs.le;have hlen:=hs.len;by_cases hm:m=m2
 .rw[show((m:Int)==(m2:Int))=true by rw[hm];simp,aa,Zf hs.hd rfl]
  rw[eH,Zf j3.hd rfl,eH];refine Ok.call (Zm5 n W V j j2 f g st hs.wd j3.wd AC AC) ?_;rintro _ rfl;refine⟨_,st,rfl,?_⟩;simp only[aA,ao,Zh];exact .mk (by rw[aI hm,ez])
 .rw[show((m:Int)==(m2:Int))=false from iG.2 AC,ae]
  simp only[aA,ao,Zh];exact .mk (by rw[aK hm,gN])
def Z0 (l:List ZJ):af:=(l.map Zz).flatten
theorem sJ {x:ZJ} (h:x.cE.length=48):(Zz x).length=49:=by simp[Zz,eK,Zp,h]
theorem uv: ∀ {l:List ZJ},(∀x∈l,x.cE.length=48)->(Z0 l).length=l.length*49
 |[],_=>rfl
 |x::l,h=>by
  show(Zz x++Z0 l).length=_;rw[cq,sJ (h x Do),uv λy hy=>h y (by simp[hy]),eK];omega
theorem DL: ∀ {l:List ZJ} {j:Nat} {e:ZJ},(∀x∈l,x.cE.length=48)->l[j]? =some e->((Z0 l).drop (j*49)).take 49=Zz e
 |[],j,e,_,h=>by simp at h
 |x::l,0,e,hl,h=>by
  simp only[jI,eO]at h;subst h;rw[vA,eG];have:=sJ (hl x Do);show(Zz x++Z0 l).take 49=_;rw[<-this,xz]
 |x::l,j+1,e,hl,h=>by
  have e2:Z0 (x::l)=Zz x++Z0 l:=rfl;have h49:=sJ (hl x Do);rw[e2,show(j+1)*49=(Zz x).length+j*49 by omega,<-kd,List.drop_left];exact DL Fd (by simpa using h)
theorem DX (l m:List ZJ):Z0 (l++m)=Z0 l++Z0 m:=by
 simp[Z0]
def Oz (m:Nat) (x:ZJ):Bool:=bif decide (0<(iX x 384).length)then decide ((iX x 384).getLastD 0>=(m:Int))else false
def Fa (m:Nat):Nat->List ZJ->al->Option (al)
 |_,[],W=>some W
 |i,x::r,W=>bif decide (x.no=i)&& !Oz m x then Fa m (i+1) r ((iX x 384).foldl (ej m) W)else none
def BC (m:Nat) (l:List ZJ):Option (al):=bif decide ((l.length:Int)=nJ m 384)then Fa m 0 l (nH m [])else none
theorem ZiI (n:Nat) (x:Int) (st:St):run Bd (n+1) 240 [.i x] st=some (.val [.i (nJ x 384)],st):=by
 rw[Zb,h.SN];rfl
theorem Zpl (n m:Nat) (l:List ZJ) (p:ah) (z:Nat) (st:St) (hm:m<=3072) (hz:z=49\/p=none) (hl:Sl st p (Z0 l)) (yW: ∀x∈l,x.cE.length=48/\x.no<8) (iL:l.length<1000) (hn:2000<=n):
  Ok (λo=>∃s',ax st s'/\match BC m l with
   |none=>o=(.val [.ptr none,.bool false],s')
   |some F=>∃i j,o=(.val [.ptr (some (i,0)),.bool true],s')/\dT s' false i j m F) (run Bd n 200 [.i (m:Int),.slice z p l.length] st):=by
 obtain⟨n,rfl⟩: ∃k,n=k+2:=⟨n-2,AC⟩;have⟨R,hR⟩: ∃R,BC m l=R:=⟨_,rfl⟩;rw[hR];unfold BC at hR;rw[Zb,h.Sg];unfold JU aB iH Q_ bY N_ dZ C_ Zl aX jM Li Lb
 try dsimp only
 rw[ar,Zr 49 z p _ hz,ao,Zi,aK (AC:¬(m:Int)<0),ae,aK (AC:¬(m:Int)>3072)];simp only[aA,ao];rw[Zi,ae,Zj (ZiI n m st)];simp only[ar,aA,ao];have hq:((l.length:Int)==nJ m 384)=decide ((l.length:Int)=nJ m 384):=rfl;rw[hq];cases jj:decide ((l.length:Int)=nJ m 384)with
 |false=>
  rw[jj,ae]at hR;rw[cy,aa,Zh,<-hR];exact .mk ⟨st,.refl st,rfl⟩
 |true=>
 rw[jj,aa]at hR;rw[bU,ae];have⟨s1,e1,bj,F6,Gk⟩:=xS (n+1) m [] none st hm rfl (by show 0<1000000;omega) Fd;have rz:run Bd (n+1) 177 [.i (m:Int),.slice 0 none 0] st=some (.val [.ptr (some (st.length+1,0))],s1):=by
  rw[Zb,h.ML]at e1⊢;exact e1
 rw[Zj rz,bF,ao,Zi];refine Zn _ (λq y s=>∃(i:Nat) (W:al),y=[.i i]/\i<=l.length/\l.length-i<=q/\ax st s/\dT s false (st.length+1) st.length m W/\Fa m i (l.drop i) W=R) ?_ l.length (n+1) _ _ ⟨0,_,rfl,eB _,AC,bj,Gk,hR⟩ AC;rintro q _ s ⟨i,W,rfl,hi,hq,qw,bN,aO⟩ rec aQ;rw[ar,ao];by_cases aw:i<l.length
 .have eD:=hl.mono qw
  have mC:l[i]? =some l[i]:=dt aw;have⟨MP,h8x⟩:=yW _ (nP aw);have hlen:=uv λx hx=>(yW x hx).1
  obtain⟨i1,o1,rfl⟩:=eD.dP (by rw[hlen];omega);have jU:l.drop i=l[i]::l.drop (i+1):=il aw;rw[jU]at aO;rw[aI (AC:(i:Int)<(l.length:Int)),aa,aD,Zg (Zo aw),bw,eD.UO (k:=i*49) (n:=49) (by rw[hlen];omega),DL (λx hx=>(yW x hx).1) mC];generalize l[i]=x at aO MP h8x;unfold Fa at aO;have dY:(aN x.cE).length=48:=by rw[Zp,MP]
  show Ok _ (az .i64 (.i x.no::aN x.cE) _ s);rw[ar,bV dY,bV (by simp[dY])];refine Ok.call (ZnS (n+1) x MP h8x s AC) ?_;rintro _ ⟨px,s2,rfl,bC,jV⟩;refine⟨_,s2,rfl,?_⟩;rw[bd,ao];have nx:=bN.pre bC;have Xb:=Znf x 384;have u6: ∀t,ax st t->R=none->Ok (λo=>∃s',ax st s'/\match R with
   |none=>o=(.val [.ptr none,.bool false],s')
   |some F=>∃i j,o=(.val [.ptr (some (i,0)),.bool true],s')/\dT s' false i j m F) ((au [.ptr none,.bool false]:M af) t):=by
   intro t ht e;rw[e,Zh];exact .mk ⟨t,ht,rfl⟩
  have cS:(((x.no:Int))==(i:Int))=decide (x.no=i):=by
   by_cases e:x.no=i
   .rw[e,aI rfl];grind
   grind
  rw[cS];cases dq:decide (x.no=i)with
  |false=>
   rw[dq,gN,ae]at aO;rw[Zi,cy,aa];simp only[aA,ao,aa];exact u6 s2 (qw.trans bC) aO.symm
  |true=>
  rw[dq,ez]at aO;have⟨ov,Ce⟩: ∃ov,Oz m x=ov:=⟨_,rfl⟩;rw[Ce]at aO;unfold Oz at Ce;refine Ok.join λdC Vc=>?_
  have hA:Ok (λo=>∃s',ax st s'/\match R with
   |none=>o=(.val [.ptr none,.bool false],s')
   |some F=>∃i j,o=(.val [.ptr (some (i,0)),.bool true],s')/\dT s' false i j m F) (dC [.bool ov] s2):=by
   rw[Vc];simp only[aA,ao];cases ov with
   |true=>
    rw[bU,ae]at aO;rw[aa];exact u6 s2 (qw.trans bC) aO.symm
   |false=>
    rw[cy,aa]at aO;rw[ae];have lD:dF [st.length] px:=λb o e hb=>by
     rw[cA.1 hb]at e;subst e;have⟨all,e1⟩:=jV.2 _ _ rfl;rw[nx.wd]at e1;cases e1
    rw[Zj (Aq (n+1) (iX x 384) px s2 nx AC jV.1 lD),ao];have cD:aq ((i:Int)+1)=((i+1:Nat):Int):=Zc;rw[cD];have VC:=qw.trans bC;refine aQ (l.length-(i+1)) _ _ AC ⟨i+1,_,rfl,AC,aW _,kP VC (aW _) _,nx.add AC _ (by rw[(qW m _ _).1]) ((qW m _ _).2 nx.lt),aO⟩
  rw[bU,ae,Zi];cases Cj:decide (0<(iX x 384).length)with
  |false=>
   rw[Cj,ae]at Ce;have:=of_decide_eq_false Cj;rw[aK (AC:¬(((iX x 384).length:Nat):Int)>0),ae];simp only[aA,ao];grind
  |true=>
   rw[Cj,aa]at Ce;have Xg:=oA Cj;obtain⟨i2,o2,rfl⟩:=jV.1.dP (by simp[ints];omega);have fR:aq ((((iX x 384).length:Nat):Int)-1)=(((iX x 384).length-1:Nat):Int):=by rw[Zc];omega
   rw[aI (AC:(((iX x 384).length:Nat):Int)>0),aa,aD,fR,Zg (Zo),bw,jV.1.fj (ZN),bm];have F5:(iX x 384)[(iX x 384).length-1]' AC=(iX x 384).getLastD 0:=by
    rw[List.getLastD_eq_getLast?,List.getLast?_eq_getElem?,dt AC];rfl
   rw[F5,Ce];simp only[aA,ao];exact hA
 .rw[aK (AC:¬(i:Int)<(l.length:Int)),ae]
  simp only[Zh];rw[sE AC]at aO;rw[<-aO];exact .mk ⟨s,qw,_,_,rfl,bN⟩
def dX (v:Int):Nat:=(v%18446744073709551616).toNat
def ga (v:Int):UInt8:=UInt8.ofNat (v%256).toNat
theorem Zqz (v:Int):dX v<18446744073709551616:=by unfold dX;omega
theorem Ec (v:Int):IntKind.wrap .u64 v=(dX v:Int):=by
 have e:v=v/18446744073709551616*18446744073709551616+(dX v:Int):=by unfold dX;omega
 have h:=rl (Zqz v);have hm:IntKind.wrap .u64 v=v%18446744073709551616:=rfl;rw[hm];unfold dX;omega
theorem EA (v:Int):IntKind.wrap .u8 v=((ga v).toNat:Int):=by
 have hm:IntKind.wrap .u8 v=v%256:=rfl;rw[hm];unfold ga;show _=(((v%256).toNat%256:Nat):Int);omega
theorem ZmN (n:Nat) (v i:Nat) (hv:v<18446744073709551616) (st:St) (hi:i<1000) (hn:i+3<=n):
  Ok (λo=>o=(.val [.u ((v/256^i%256:Nat):Int)],st)) (run Bd n 248 [.w (v:Int),.i (i:Int)] st):=by
 obtain⟨n,rfl⟩: ∃k,n=k+2:=⟨n-2,AC⟩;rw[Zb,h.SQ];unfold IC uA uG sQ iP ZD cV;simp only[ar,ao,Zi];refine Zn _ (λq y s=>∃k:Nat,y=[.w ((v/256^k:Nat):Int),.i (k:Int)]/\k<=i/\i-k<=q/\s=st) ?_ i (n+1) _ _ ⟨0,by rw[Nat.pow_zero,Nat.div_one];rfl,eB _,AC,rfl⟩ AC;rintro q _ s ⟨k,rfl,hk,hq,rfl⟩ rec aQ;simp only[ar,ao];have hd:v/256^k<18446744073709551616:=Aa (Nat.div_le_self _ _) hv;by_cases aw:k<i
 .rw[aI (AC:(k:Int)<(i:Int)),aa]
  have h1:((v/256^k:Nat):Int).tdiv 256=((v/256^(k+1):Nat):Int):=by
   rw[Nat.pow_succ,<-Nat.div_div_eq_div_mul];rfl
  have h2:v/256^(k+1)<18446744073709551616:=Fd
  rw[h1,rl h2,Zc];exact aQ (i-(k+1)) _ _ AC Fd
 .rw[aK (AC:¬(k:Int)<(i:Int)),ae]
  have:k=i:=AC
  subst this;rw[Zh];refine .mk ?_;have h1:((v/256^k:Nat):Int).tmod 256=((v/256^k%256:Nat):Int):=rfl;rw[h1];have h2:IntKind.wrap .u8 ((v/256^k%256:Nat):Int)=((v/256^k%256:Nat):Int):=by
   show((v/256^k%256:Nat):Int)%256=_;omega
  rw[h2]
theorem Zrz (v n:Nat):cI v (n+1)=cI v n++[UInt8.ofNat (v/256^n)]:=by
 rw[Lj];rfl
theorem ZqQ (x:Nat) (_h:x<256):na [.u (x:Int)]=some [UInt8.ofNat x]:=rfl
theorem Zkn (n:Nat) (v k:Nat) (hv:v<18446744073709551616) (st:St) (hk:k<1000:=by omega) (hn:k+10<=n:=by omega):
  Ok (λo=>∃s',o=(.val [.str (cI v k)],s')/\ax st s') (run Bd n 213 [.w (v:Int),.i (k:Int)] st):=by
 obtain⟨n,rfl⟩: ∃k,n=k+2:=⟨n-2,AC⟩;rw[Zb,h.Sr];unfold JF uA bQ Ls ZD iP uk;simp only[ar,ao,Zi];refine Zn _ (λq y s=>∃i:Nat,y=[.str (cI v i),.i (i:Int)]/\i<=k/\k-i<=q/\ax st s) ?_ k (n+1) _ _ ⟨0,rfl,eB _,AC,.refl st⟩ AC;rintro q _ s ⟨i,rfl,hi,hq,hp⟩ rec aQ;simp only[fL,ar,ao];by_cases aw:i<k
 .rw[aI (AC:(i:Int)<(k:Int)),aa]
  refine Ok.call (ZmN (n+1) v i hv s AC AC) ?_;rintro _ rfl;refine⟨_,s,rfl,?_⟩;rw[ar,ao,Zv,AU (by show 0+1<=1;omega)];show Ok _ (gI [.u ((v/256^i%256:Nat):Int)] _ _);unfold gI;rw[ZqQ _ (vy _ EQ)];simp only;rw[Zg (fE (by rw[ZH];show i+1<=_;omega)),Zc];refine aQ (k-(i+1)) _ _ AC ⟨i+1,?_,AC,aW _,hp.trans (ax.new _ _)⟩;rw[Zrz];have:UInt8.ofNat (v/256^i%256)=UInt8.ofNat (v/256^i):=by
   refine UInt8.toNat_inj.1 ?_;simp
  rw[this];rfl
 .rw[aK (AC:¬(i:Int)<(k:Int)),ae]
  have:i=k:=AC
  subst this;rw[Zh];exact .mk ⟨s,rfl,hp⟩
theorem Zn2 (n:Nat) (x:Nat) (hx:x<4294967296) (st:St):run Bd (n+1) 288 [.y (x:Int)] st=some (.val [.y (kC x:Nat)],st):=by
 rw[Zb,h.Th];unfold Jp iI kC
 try dsimp only
 rw[ar,ao];have h1:((x:Int).tmod 2==1)=decide (x%2=1):=by
  have e:(x:Int).tmod 2=((x%2:Nat):Int):=rfl;rw[e];by_cases h:x%2=1
  .rw[h,aI rfl];rfl
  grind
 have h2:(x:Int).tdiv 2=((x/2:Nat):Int):=rfl;rw[h1,h2,uE];by_cases h:x%2=1
 .rw[aI h,aa,bO h]
  have:=xj (x:=x/2) (y:=2197175160) AC;rw[show((2197175160:Nat):Int)=2197175160 from rfl]at this;rw[this];rfl
 .rw[aK h,ae,cG h];rfl
theorem Znb (n:Nat) (x k:Nat) (hx:x<4294967296) (st:St) (hk:k<1000) (hn:k+4<=n):
  Ok (λo=>o=(.val [.y (ZC k x:Nat)],st)) (run Bd n 264 [.y (x:Int),.i (k:Int)] st):=by
 obtain⟨n,rfl⟩: ∃k,n=k+2:=⟨n-2,AC⟩;rw[Zb,h.S9];unfold IW bQ rn ra nc iI ly;simp only[ar,ao,Zi];have kX: ∀i,ZC i x<4294967296:=λi=>by
  induction i with
  |zero=>exact hx
  |succ i ih=>rw[DU];exact Zou ih
 refine Zn _ (λq y s=>∃i:Nat,y=[.y (ZC i x:Int),.i (i:Int)]/\i<=k/\k-i<=q/\s=st) ?_ k (n+1) _ _ ⟨0,rfl,eB _,AC,rfl⟩ AC;rintro q _ s ⟨i,rfl,hi,hq,rfl⟩ rec aQ;simp only[ar,ao];by_cases aw:i<k
 .rw[aI (AC:(i:Int)<(k:Int)),aa,Zj (Zn2 n _ (kX i) s)]
  rw[ar,ao,<-DU,Zc];exact aQ (k-(i+1)) _ _ AC Fd
 .rw[aK (AC:¬(i:Int)<(k:Int)),ae]
  have:i=k:=AC
  subst this;rw[Zh];exact .mk rfl
theorem ZoJ (n:Nat) (a:ah) (l:aj) (st:St) (ha:cC st a l) (hl:l.length<1000000) (hn:l.length+20<=n):
  Ok (λo=>o=(.val [.y (mb l:Nat)],st)) (run Bd n 242 [.slice 1 a l.length] st):=by
 obtain⟨n,rfl⟩: ∃k,n=k+2:=⟨n-2,AC⟩;rw[Zb,h.SP];unfold JV bG rn ra N_ nc iI ly
 try dsimp only
 rw[bd,ao,Zi];refine Zn _ (λq y s=>∃(i:Nat),y=[.y (((l.take i).foldl nE 4294967295:Nat):Int),.i (i:Int)]/\i<=l.length/\l.length-i<=q/\s=st) ?_ l.length (n+1) _ _ Fd AC;rintro q _ s ⟨i,rfl,hi,hq,rfl⟩ rec aQ;simp only[ar,ao];have hx:=Bg (l.take i) (x:=4294967295) AC;by_cases aw:i<l.length
 .obtain⟨i1,o1,rfl⟩:=ha.dP AC
  have mC:l[i]? =some l[i]:=dt aw;have rS:l.take (i+1)=l.take i++[l[i]]:=Do
  rw[aI (AC:(i:Int)<(l.length:Int)),aa,aD,Zg (Zo aw),bw,ha.fj mC,bm];have hc:=(l[i]).toNat_lt;rw[uE,xj hx];refine Ok.call (Znb (n+1) _ 8 (Ac (n:=32) AC AC) s AC AC) ?_;rintro _ rfl;refine⟨_,s,rfl,?_⟩;rw[ar,ao,Zc];refine aQ (l.length-(i+1)) _ _ AC ⟨i+1,?_,AC,aW _,rfl⟩;rw[rS,Dc];rfl
 .rw[aK (AC:¬(i:Int)<(l.length:Int)),ae]
  rw[Zh];rw[dJ AC]at hx⊢;refine .mk ?_;have h1:(4294967295:Int)-((l.foldl nE 4294967295:Nat):Int)=(mb l:Int):=by unfold mb;omega
  rw[h1,uE (LC l)]
def Zx (n:Nat):aj:=List.replicate n 0
def tk (s:aj) (n:Nat):aj:=s++Zx (n-s.length)
def gC (kind tag:Int) (body:aj):aj:=[ga kind,ga tag,0,0]++tk body 56
def sd (kind tag:Int) (body:aj):aj:=cI (mb (gC kind tag body)) 4++gC kind tag body
theorem ZnM (n:Nat):fp n [.u 0]=aN (Zx n):=by
 simp[fp,Zx,aN]
theorem Zn0 (n:Nat) (s:aj) (k:Nat) (hs:s.length<1000000) (hk:k<1000000) (st:St):
  Ok (λo=>∃s',o=(.val [.str (tk s k)],s')/\ax st s') (run Bd (n+1) 249 [.str s,.i (k:Int)] st):=by
 rw[Zb,h.SR];unfold Ka bQ iP Ls
 try dsimp only
 rw[fL,ar,ao];have hw:aq ((k:Int)-(s.length:Int))=(k:Int)-(s.length:Int):=Zc;have hd:(if (k:Int)-(s.length:Int)<0 then(0:Int)else(k:Int)-(s.length:Int))=((k-s.length:Nat):Int):=by
  split<;>omega
 rw[hw,hd,bw,Zg (by rw[aZ,aZ,bD,bD,bD];omega),Zv,ZnM,AU (by rw[Zp];simp[Zx]),eG,dJ (by rw[Zp];simp[Zx]),<-vX,Dk,Zg (fE (by grind[Zx])),Zh];exact .mk ⟨_,rfl,ax.new _ _⟩
theorem As (l:aj):na (aN l)=some l:=J9 l
theorem Zjl (n:Nat) (kind tag:Int) (body:aj) (hb:body.length<100000) (st:St) (hn:body.length+200<=n):
  Ok (λo=>∃s',o=(.val [.str (sd kind tag body)],s')/\ax st s') (run Bd n 214 [.i kind,.i tag,.str body] st):=by
 obtain⟨n,rfl⟩: ∃k,n=k+2:=⟨n-2,AC⟩;rw[Zb,h.Ss];unfold Jk mR nc sH uk bh ZD Ls;simp only[fL,ar,ao];have y7:([.u (IntKind.wrap .u8 kind),.u (IntKind.wrap .u8 tag),.u 0,.u 0]:af)=aN [ga kind,ga tag,0,0]:=by
  rw[EA,EA];rfl
 rw[y7,Zv,AU (by rw[Zp];show 0+4<=4;omega),eG,dJ (by rw[Zp];show 4<=4;omega),<-vX,Dk];refine Ok.cx (Zn0 n body 56 AC AC _) λs1 bj=>?_
 rw[fL,ao];have hS:[ga kind,ga tag,0,0]++tk body 56=gC kind tag body:=rfl;have hSl:(gC kind tag body).length=4+(tk body 56).length:=Fd
 have W5:(tk body 56).length<=body.length+56:=by
  simp[tk,Zx]
 rw[Zg (fE (by show 4+_<=_;omega)),hS,Zv];refine Ok.call (ZoJ (n+1) (some (s1.length,0)) (gC kind tag body) _ ⟨false,ZR (gC kind tag body),Do,Nat.le_of_eq (by rw[ei,vX]),by rw[eG,vX,lO]⟩ AC AC) ?_;rintro _ rfl;refine⟨_,_,rfl,?_⟩;rw[ar,ao];have hc:=LC (gC kind tag body);rw[rl];refine Ok.call (Zkn (n+1) _ 4 AC _) ?_;rintro _ ⟨s2,rfl,bC⟩;refine⟨_,_,rfl,?_⟩;rw[fL,ao,Zg (fE (by rw[ZH];omega)),Zh];exact .mk ⟨s2,rfl,(((ax.new _ _).trans bj).trans (ax.new _ _)).trans bC⟩
def tO (l:ak):aj:=(l.map λk=>cI (dX k) 2).flatten
theorem Eh (l:ak):(tO l).length=2*l.length:=by
 unfold tO;induction l with
 |nil=>rfl
 |cons k l ih=>rw[pC,zZ,cq,ZH,ih,eK];omega
theorem ZqZ (l:ak) (h:i<l.length):tO (l.take (i+1))=tO (l.take i)++cI (dX l[i]) 2:=by
 unfold tO;rw[pE h,fb,List.flatten_append];simp
theorem pS {a b:Nat} (h:a<=b) (K:M β):aJ (Nat.ble a b) K=K:=Zg (fE h) K
theorem Zoe (n a e:Nat) (ha:a<100000) (he:0<e) (he2:e<1000) (st:St) (hn:a+10<=n):
  Ok (λo=>o=(.val [.i (((a+e-1)/e:Nat):Int)],st)) (run Bd n 220 [.i (a:Int),.i (e:Int)] st):=by
 obtain⟨n,rfl⟩: ∃k,n=k+2:=⟨n-2,AC⟩;rw[Zb,h.Sv];unfold Jf bQ jg bY Li;simp only[ar,ao,Zi];have hm:(a+e-1)/e<=a:=by
  rcases z8 a with h0|h0
  .subst h0
   rw[ei,Nat.div_eq_of_lt AC];exact aW _
  .refine Nat.div_le_of_le_mul ?_
   have:1*(e-1)<=a*(e-1):=xB _ h0;have h2:e*a=a+a*(e-1):=by
    obtain⟨f,rfl⟩: ∃f,e=f+1:=⟨e-1,AC⟩;rw[Nat.add_sub_cancel,uh,Nat.one_mul,Nat.mul_comm f];omega
   omega
 have P1: ∀k,k*e<a↔k<(a+e-1)/e:=λk=>by
  rw[Nat.lt_iff_add_one_le,Nat.lt_iff_add_one_le,Nat.le_div_iff_mul_le he,uh,Nat.one_mul];omega
 generalize (a+e-1)/e=m at hm P1;refine Zn _ (λq y s=>∃k:Nat,y=[.i (k:Int)]/\k<=m/\m-k<=q/\s=st) ?_ m (n+1) _ _ Fd AC;rintro q _ s ⟨k,rfl,hk,hq,rfl⟩ rec aQ;rw[ar,ao];have hke:k*e<=100000*1000:=Nat.mul_le_mul AC AC;have hw:aq ((k:Int)*(e:Int))=((k*e:Nat):Int):=by
  rw[show((k:Int)*(e:Int))=((k*e:Nat):Int) by push_cast;rfl];exact Zc
 rw[hw];have:=P1 k;by_cases aw:k*e<a
 .rw[aI (AC:((k*e:Nat):Int)<(a:Int)),aa,Zc]
  exact aQ (m-(k+1)) _ _ AC Fd
 .rw[aK (AC:¬((k*e:Nat):Int)<(a:Int)),ae]
  have fQ:k=m:=by
   omega
  rw[fQ,Zh];exact .mk rfl
theorem ZlY (n a:Nat) (s g:Int) (ha:a<100000) (st:St) (hn:a+20<=n):
  Ok (λo=>o=(.val [.i (((a+383)/384:Nat):Int)],st)) (run Bd n 196 [.agg [.i (a:Int),.i s,.i g]] st):=by
 obtain⟨n,rfl⟩: ∃k,n=k+2:=⟨n-2,AC⟩;rw[Zb,h.Se];unfold I7 pK aX gH Li
 try dsimp only
 rw[cU,ar,ao];refine Ok.call (Zoe (n+1) a 384 ha EQ EQ st AC) ?_;rintro _ rfl;refine⟨_,st,rfl,?_⟩;rw[ar,ao,Zh];exact .mk rfl
theorem or8 {x:Nat} (hx:x<256) (hy:y<256):bits .or .u8 (x:Int) (y:Int)=((x|||y:Nat):Int):=by
 show IntKind.wrap .u8 ((BitVec.ofInt 8 (x:Int)|||BitVec.ofInt 8 (y:Int)).toNat:Int)=_;have e: ∀z:Nat,z<256->(BitVec.ofInt 8 (z:Int)).toNat=z:=Do
 rw[BitVec.toNat_or,e x hx,e y hy];have h:x|||y<256:=Fd
 show((x|||y:Nat):Int)%256=_;omega
def lz (b:aj) (k:Nat):aj:=b.set (k/8) (UInt8.ofNat ((b.getD (k/8) 0).toNat|||2^(k%8)))
theorem xT (b:aj) (k:Nat):(lz b k).length=b.length:=by simp[lz]
def inPlace (p:Nat) (x:Int):Bool:=decide (x>=((384*p:Nat):Int))&&decide (x<((384*p+384:Nat):Int))
def rp (p:Nat):aj->ak->aj
 |b,[]=>b
 |b,x::r=>rp p (bif inPlace p x then lz b (x-((384*p:Nat):Int)).toNat else b) r
def fB (p:Nat) (l:ak):ZJ:=⟨p,rp p (List.replicate 48 0) l⟩
theorem Zl1 (p:Nat): ∀(l:ak) (b:aj),(rp p b l).length=b.length
 |[],_=>rfl
 |x::r,b=>by
  unfold rp;rw[Zl1 p r];cases inPlace p x with
  |true=>exact xT b _
  |false=>rfl
theorem Ew (b:aj) (k:Nat) (c:UInt8):aN (b.set k c)=(aN b).set k (.u c.toNat):=by
 simp[aN]
theorem ZnW (n p:Nat) (l:ak) (a:ah) (z:Nat) (st:St) (hz:z=1\/a=none) (hs:Sl st a (ints l)) (hp:p<1000) (hl:l.length<100000) (hx: ∀x∈l,0<=x/\x<1000000) (hn:l.length+10<=n):
  Ok (λo=>o=(.val [.agg (Zz (fB p l))],st)) (run Bd n 192 [.i (p:Int),.slice z a l.length] st):=by
 obtain⟨n,rfl⟩: ∃k,n=k+2:=⟨n-2,AC⟩;rw[Zb,h.Sc];unfold Kd bG bQ Zw aB iP Lb Za
 try dsimp only
 rw[ar,Zr 1 z a _ hz,ao,Zi];have cD:aq (384*(p:Int))=((384*p:Nat):Int):=by
  rw[show(384*(p:Int))=((384*p:Nat):Int) by omega];exact Zc
 have fR:aq (((384*p:Nat):Int)+384)=((384*p+384:Nat):Int):=by
  rw[Zc];omega
 rw[cD,fR];have⟨G,hG⟩: ∃G,rp p (List.replicate 48 0) l=G:=⟨_,rfl⟩;have hR:fB p l=⟨p,G⟩:=by unfold fB;rw[hG]
 rw[hR];refine Zn _ (λq y s=>∃(i:Nat) (b:aj),y=[.agg (.i (p:Int)::aN b),.i (i:Int)]/\i<=l.length/\l.length-i<=q/\s=st/\b.length=48/\rp p b (l.drop i)=G) ?_ l.length (n+1) _ _ ⟨0,List.replicate 48 0,rfl,eB _,AC,rfl,qO,hG⟩ AC;rintro q _ s ⟨i,b,rfl,hi,hq,rfl,hb,aO⟩ rec aQ;have dY:(aN b).length=48:=by rw[Zp,hb]
 rw[cU];simp only[ar,ao];rw[bV dY];by_cases aw:i<l.length
 .obtain⟨i1,o1,rfl⟩:=hs.dP (by simp[ints];omega)
  have iT:(ints l)[i]? =some (.i l[i]):=ZN aw;have jU:l.drop i=l[i]::l.drop (i+1):=il aw;have rQ:l[i]∈l:=nP aw;rw[jU]at aO;have⟨x,N8⟩: ∃x,l[i]=x:=⟨_,rfl⟩;rw[N8]at iT aO rQ;have⟨zC,N5⟩:=hx x rQ;unfold rp at aO;rw[aI (AC:(i:Int)<(l.length:Int)),aa,aD,Zg (Zo aw),bw,hs.fj iT,bm];have mA:aq ((i:Int)+1)=((i+1:Nat):Int):=Zc;rw[mA];refine Ok.join λaG Nt=>?_
  have hA: ∀c,inPlace p x=c->Ok (λo=>o=(.val [.agg (Zz ⟨p,G⟩)],s)) (aG [.bool c] s):=by
   intro c hc;rw[Nt];simp only[aA,ao];rw[hc]at aO;rw[Zi];cases c with
   |false=>
    rw[ae]at aO;rw[ae];show Ok _ (bW [.agg (.i (p:Int)::aN b)] _ s);rw[cU,ar,bV dY,ao];exact aQ (l.length-(i+1)) _ _ AC Fd
   |true=>
    rw[aa]at aO;unfold inPlace at hc;rw[aZ,bD,bD]at hc;have⟨k,hk⟩: ∃k:Nat,x-((384*p:Nat):Int)=(k:Int):=Fd
    rw[hk,bw]at aO;have Gq:aq (x-((384*p:Nat):Int))=(k:Int):=by rw[hk];exact Zc
    have tt:aq ((k:Int).tdiv 8)=((k/8:Nat):Int):=by
     rw[show(k:Int).tdiv 8=((k/8:Nat):Int)from rfl];exact Zc
    have iM:(k:Int).tmod 8=((k%8:Nat):Int):=rfl;rw[aa,aD,Zg (Zo aw),hs.fj iT];simp only[bm,Gq,tt,iM,bw];have hk8:k/8<48:=AC
    have BJ:b[k/8]? =some (b.getD (k/8) 0):=by
     rw[gF,dt AC];rfl
    have wz:=(b.getD (k/8) 0).toNat_lt;rw[Zg (show bL ((k/8:Nat):Int) 48=true from Zo hk8),lq (i:=k/8*1) (by rw[cL];exact EC BJ),bm,Zg (aI AC),Zg (show bL ((k/8:Nat):Int) 48=true from Zo hk8),pS AC];have h28:2^(k%8)<=2^7:=xC EQ AC;have NU:IntKind.wrap .u8 (1*2^(min (k%8) 8))=((2^(k%8):Nat):Int):=by
     rw[je AC,Int.one_mul,show((2:Int)^(k%8))=((2^(k%8):Nat):Int) by push_cast;rfl];generalize 2^(k%8)=w at h28;show(w:Int)%256=_;omega
    rw[NU,or8 wz AC];have NJ:(b.getD (k/8) 0).toNat|||2^(k%8)<256:=Nat.or_lt_two_pow (n:=8) wz AC;have bN:cT (aN b) (k/8*1) [.u (((b.getD (k/8) 0).toNat|||2^(k%8):Nat):Int)]=aN (lz b k):=by
     rw[cL,yh _ _ _ AC];unfold lz;rw[Ew];congr 2;show _=(((((b.getD (k/8) 0).toNat|||2^(k%8))%256:Nat)):Int);omega
    rw[bN];show Ok _ (bW [.agg (.i (p:Int)::aN (lz b k))] _ s);rw[cU,ar];have F8:(aN (lz b k)).length=48:=by rw[Zp,xT,hb]
    rw[bV F8,ao];exact aQ (l.length-(i+1)) _ _ AC ⟨i+1,lz b k,rfl,AC,aW _,rfl,by rw[xT,hb],aO⟩
  cases wD:decide (x>=((384*p:Nat):Int))with
  |false=>
   rw[ae];exact hA false (by unfold inPlace;rw[wD,gN])
  |true=>
   rw[aa,aD,Zg (Zo aw),hs.fj iT,bm];exact hA _ (by unfold inPlace;rw[wD,ez])
 .rw[aK (AC:¬(i:Int)<(l.length:Int)),ae]
  rw[sE AC]at aO;rw[cU,ar,bV dY,ao,bV (by simp[dY]),Zh];refine .mk ?_;rw[<-aO];rfl
def pL (x:ZJ):aj:=sd 4 x.no x.cE
theorem Zos (n:Nat) (x:ZJ) (hl:x.cE.length=48) (st:St) (hn:400<=n):
  Ok (λo=>∃s',o=(.val [.str (pL x)],s')/\ax st s') (run Bd n 193 [.agg (Zz x)] st):=by
 obtain⟨n,rfl⟩: ∃k,n=k+2:=⟨n-2,AC⟩;rw[Zb,h.Sd];unfold JQ Zl sH Ls Zz
 try dsimp only
 have dY:(aN x.cE).length=48:=by rw[Zp,hl]
 rw[cU,ar,bV dY,ao,bV (n:=49) (by simp[dY]),Zv,Zf (i:=st.length) (f:=false) (all:= .i x.no::aN x.cE) (d:= .i x.no) Do rfl,bm];have gq:(DV.int .i64 x.no::aN x.cE).length=49:=by simp[dY]
 rw[AU (by rw[gq];omega),AU (by rw[gq];omega)];have y9:(List.drop 1 (DV.int .i64 x.no::aN x.cE)).take 48=ZR x.cE:=by
  rw[List.drop_succ_cons,eG,dJ AC,vX]
 rw[y9,Dk];refine Ok.cv (Zjl (n+1) 4 x.no x.cE AC _ AC) λs1 bj=>?_
 rw[fL,ao,Zh];exact .mk ⟨s1,rfl,(ax.new _ _).trans bj⟩
structure vJ (x:db):Prop where
 s0:1<=x.seq
 s1:x.seq<=4611686018427387904
 g:kq x.blocks x.ef x.g=true
 u0:0<=x.used
 u1:x.used<=x.ef
 f0:0<=x.free
 f1:x.free<=x.used
 t0:x.used=0->x.de=0
 t1:0<x.used->jE x x.de=true
 d:x.dir≠0->jE x x.dir=true
 len:(x.bg.length:Int)=sP x.blocks x.ef x.g
 ch: ∀i,i<x.bg.length->jE x (x.bg.getD i 0)=true/\x.bg.getD i 0∉x.bg.take i
theorem ZpC (x:db):lZ x=true↔ ∀i,i<x.bg.length->jE x (x.bg.getD i 0)=true/\x.bg.getD i 0∉x.bg.take i:=by
 simp[lZ]
theorem Zlx (x:db):lV x=true↔vJ x:=by
 unfold lV;rw[aZ,aZ,ZpC,nN,nN];simp only[xk,decide_eq_false_iff_not,Bool.not_eq_false'];constructor
 .rintro⟨⟨a1,a2,a3,a4,a5,a6,a7⟩,⟨b1,b2,b3,b4⟩,c⟩
  refine⟨AC,AC,a3,AC,AC,AC,AC,λh=>?_,λh=>?_,λh=>?_,?_,c⟩
  .rw[h]at b1
   simpa using b1
  .rw[aI h,aa]at b2
   simpa using b2
  .rw[show(x.dir==0)=false from iG.2 h,cy,aa]at b3
   simpa using b3
  .simpa using b4
 .intro h
  refine⟨⟨by have:=h.s0;omega,by have:=h.s1;omega,h.g,by have:=h.u0;omega,by have:=h.u1;omega,by have:=h.f0;omega,by have:=h.f1;omega⟩,⟨?_,?_,?_,?_⟩,h.ch⟩
  .by_cases hu:x.used=0
   .rw[h.t0 hu];cases(x.used==0)<;>rfl
   grind
  .by_cases hu:0<x.used
   .rw[h.t1 hu];cases decide (x.used>0)<;>rfl
   grind
  .by_cases hu:x.dir=0
   .rw[hu];rfl
   .rw[h.d hu];cases(!(x.dir==0))<;>rfl
  simp[h.len]
theorem ZsR (x:db) (k:Int):jE x k=true↔2<=k/\k<x.blocks:=by
 simp[jE]
theorem Kq {b s g:Int} (h:kq b s g=true):sP b s g=(((b.toNat+383)/384:Nat):Int):=by
 have⟨g1,g2,_⟩:=uu h;unfold sP nJ;rw[h,aa];obtain⟨m,rfl⟩: ∃m:Nat,b=m:=⟨b.toNat,AC⟩;rw[bw,Zc (x:=(m:Int)+384),Zc (x:=(m:Int)+384-1),show((m:Int)+384-1)=((m+383:Nat):Int) by omega,show(((m+383:Nat):Int).tdiv 384)=(((m+383)/384:Nat):Int)from rfl];exact Zc
theorem Zub (k m:Nat) (hk:k<64) (h:2^k*(2*m+1)<18446744073709551616):bits .and .u64 ((2^k*(2*m+1):Nat):Int) (IntKind.wrap .u64 (0-((2^k*(2*m+1):Nat):Int)))=((2^k:Nat):Int):=by
 have hp:0<2^k*(2*m+1):=Fd
 have hn:=Ztr k m 64 hk AC;generalize 2^k*(2*m+1)=w at h hp hn⊢;have e:IntKind.wrap .u64 (0-(w:Int))=((2^64-w:Nat):Int):=by
  show(0-(w:Int))%18446744073709551616=_;omega
 rw[e,Zr9 h,hn]
def zT (k:Nat):Nat:=(2^k*285870213051353865%18446744073709551616)/288230376151711744
def OQ (d:Option DV) (k:Nat):Bool:=match d with
 |some (.u n)=>n==(k:Int)
 |_=>false
theorem Ztv {d:Option DV} (h:OQ d k=true):d=some (.u (k:Int)):=by
 unfold OQ at h;grind
theorem ZrQ: ∀k,k<64->zT k<64/\OQ (GV[zT k]?) k=true:=by decide+kernel
theorem Zuh (k:Nat) (h:k<64):zT k<64/\GV[zT k]? =some (.u (k:Int)):=⟨(ZrQ k h).1,Ztv (ZrQ k h).2⟩
theorem Zs4 (x c:Nat):(IntKind.wrap .u64 ((x:Int)*(c:Int))).fdiv (2^58)=((x*c%18446744073709551616/288230376151711744:Nat):Int):=by
 have e1:((x:Int)*(c:Int))=((x*c:Nat):Int):=by push_cast;rfl
 have e2:(2:Int)^58=((288230376151711744:Nat):Int):=EQ
 rw[e1,Ztc,e2,vY]
theorem Q6:uq Bd:=by
 intro n k m st ht hk hw;rw[Zb,h.e86];have hand:=Zub k m hk hw;have hp:0<2^k*(2*m+1):=Fd
 generalize 2^k*(2*m+1)=w at hand hp hw;have⟨h1,h2⟩:=Zuh k hk;have NU:(IntKind.wrap .u64 (((2^k:Nat):Int)*285870213051353865)).fdiv (2^58)=(zT k:Int):=Zs4 (2^k) 285870213051353865;unfold Z7 Ms;rw[ar,ao,hand,NU,show((w:Int)==0)=false from iG.2 AC,ae,Zg (show bL (zT k:Int) 64=true from Zo h1),bw,cL,dK,Zf (i:=2) (f:=true) (all:=GV) (d:= .u (k:Int)) (ht 2 _ rfl) h2,bm,Zh,Zc]
end Go.Gv.F
