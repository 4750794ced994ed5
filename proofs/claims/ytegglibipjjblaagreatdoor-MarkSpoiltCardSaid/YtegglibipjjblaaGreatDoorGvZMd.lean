/- States alike: the program's own comparison. -/
import Derived.Test.YtegglibipjjblaaGreatDoorGvBMk
import Derived.Test.YtegglibipjjblaaGreatDoorGvZMc
namespace Go.Gv.F
open Go.Gv
variable {β:Type}
theorem ZvB (c c':Zf) (n:Nat) (args:ah):On c n args=D4 c' n args:=rfl
variable {Bd:Zh} [h:HA Bd]
theorem ZjG (n za zb:Nat) (l m:List bh) (p q:ai) (st:St) (zl:za=4\/p=none) (zm:zb=4\/q=none) (hp:Sl st p (bM l)) (hq:Sl st q (bM m)) (hl:l.length<=50000) (hn:50100<=n):
  Ok (λo=>∃b,o=(.val [.bool b],st)/\(b=true↔l=m)) (run Bd n 235 [.slice za p l.length,.slice zb q m.length] st):=by
 obtain⟨n,rfl⟩: ∃m,n=m+1:=⟨n-1,by omega⟩;have:=ZhV (Bd:=λ_=>D4) ⟨rfl⟩ (n+1) za zb l m p q st zl zm hp hq hl hn;rw[Ze]at this;rw[Ze,h.acF,ZvB _ (run (λ_=>D4) n)];exact this
theorem Zr8 {Bd:Zh} (h:HA Bd) (n za zb:Nat) (x y:dr) (p q:ai) (st:St) (zl:za=4\/p=none) (zm:zb=4\/q=none) (hp:Sl st p (bM x.bW)) (hq:Sl st q (bM y.bW)) (hl:x.bW.length<=50000) (hn:50110<=n):
  Ok (λo=>∃b,o=(.val [.bool b],st)/\(b=true↔x=y)) (run Bd n 199 [.agg (jw x za p),.agg (jw y zb q)] st):=by
 obtain⟨n,rfl⟩: ∃m,n=m+1:=⟨n-1,by omega⟩;rw[Ze,h.ab3];unfold Rc Hf az bd Lb jw;rw[cJ];simp only[bP,Zg 4 za p _ zl,aq];rw[cJ];simp only[bP,Zg 4 zb q _ zm,aq,Za];by_cases mA:x.name=y.name
 .rw[show(x.name==y.name)=true by rw[mA];exact rr _,ae]
  refine Ok.call (ZjG n 4 4 x.bW y.bW p q st (.inl rfl) (.inl rfl) hp hq hl (by omega)) ?_;rintro _ ⟨c,rfl,hc⟩;refine⟨_,st,rfl,?_⟩;simp only[au,aq,Zd];refine .mk ⟨c,rfl,hc.trans ⟨λe=>?_,λe=>by rw[e]⟩⟩;cases x;cases y;simp only at mA e;subst mA e;rfl
 .rw[show(x.name==y.name)=false from dY.2 mA,af]
  simp only[au,aq,Zd];exact .mk ⟨false,rfl,by simp only[ri,false_iff];exact λe=>mA (by rw[e])⟩
variable {f g:Bool} {i i2 j j2 k m m2 o y:Nat} {V W:al}
theorem Zp9 {s:St} {ds:ah} {xs:List dr} {x:dr} (hs:Sl s (some (i,o)) ds) (hh:je s ds xs) (e:xs[j]? =some x): ∃z p,(z=4\/p=none)/\Sl s p (bM x.bW)/\∀K:ah->M β,bS i (j*2+o) 2 K s=K (jw x z p) s:=by
 obtain⟨z,p,hz,h1,_,_,h2⟩:=hh.get e;have hj:j<xs.length:=(dB.1 e).1;exact⟨z,p,hz,h2,λK=>by rw[hs.xy (k:=j*2) (n:=2) (by rw[hh.len];omega) K,h1]⟩
theorem Zlc {Bd:Zh} (h:HA Bd) (h2:HA Bd) (n z1 z2:Nat) (xs ys:List dr) (p q:ai) (st:St) (hZ:z1=2\/p=none) (gD:z2=2\/q=none) (hx: ∃ds,Sl st p ds/\je st ds xs) (hy: ∃ds,Sl st q ds/\je st ds ys) (sz:Oh xs) (hn:50120<=n):
  Ok (λo=>∃b,o=(.val [.bool b],st)/\(b=true↔xs=ys)) (run Bd n 198 [.slice z1 p xs.length,.slice z2 q ys.length,.func 199 [] []] st):=by
 obtain⟨n,rfl⟩: ∃m,n=m+1:=⟨n-1,by omega⟩;rw[Ze,h.ab2];unfold ZO Q_ cI N_ bd Lb Li;simp only[Zg 2 z1 p _ hZ,Zg 2 z2 q _ gD,Of,aq];have no:xs≠ys->Ok (λo=>∃b,o=(.val [.bool b],st)/\(b=true↔xs=ys)) ((ay [.bool false]:M ah) st):=by
  intro hm;rw[Zd];exact .mk ⟨false,rfl,by simp[hm]⟩
 by_cases hlen:xs.length=ys.length;rotate_left
 .rw[show((xs.length:Int)==(ys.length:Int))=false from dY.2 (by omega),bp,ae]
  exact no λe=>hlen (by rw[e])
 rw[show((xs.length:Int)==(ys.length:Int))=true by rw[hlen];exact rr _,bm,af,Za];obtain⟨ds,hs,hh⟩:=hx;obtain⟨es,gs,gh⟩:=hy;have dG:=sz.len;refine Zj _ (λk v s=>∃i:Nat,v=[.int .i64 i]/\i<=xs.length/\xs.length-i<=k/\s=st/\∀j,j<i->xs[j]? =ys[j]?) ?_ xs.length n _ _ ⟨0,rfl,cn _,by omega,rfl,λj hj=>absurd hj (DO j)⟩ (by omega);rintro k _ s ⟨i,rfl,hi,hk,rfl,cS⟩ rec aP;simp only[av,aq];by_cases ax:i<xs.length
 .obtain⟨i1,o1,rfl⟩:=hs.cD (by rw[hh.len];omega)
  obtain⟨i2,o2,rfl⟩:=gs.cD (by rw[gh.len];omega);have e1:xs[i]? =some xs[i]:=bU ax;have e2:ys[i]? =some ys[i]:=bU (by omega);generalize xs[i]=a at e1;generalize ys[i]=b at e2;have UM:=sz.bW a (oZ e1);obtain⟨za,pa,zl,VC,la⟩:=Zp9 (β:=ah) hs hh e1;obtain⟨zb,pb,zm,FI,lb⟩:=Zp9 (β:=ah) gs gh e2;rw[aw (show(i:Int)<(xs.length:Int) by omega),ae,aX,Zb (Zi ax),bu,la];unfold jw;simp only[bP,Zg 4 za pa _ zl,aq];rw[aX,Zb (Zi),lb];unfold jw;simp only[bP,Zg 4 zb pb _ zm,aq];refine Ok.call (Zr8 h2 n 4 4 a b pa pb s (.inl rfl) (.inl rfl) VC FI UM (by omega)) ?_;rintro _ ⟨c,rfl,hc⟩;refine⟨_,s,rfl,?_⟩;simp only[au,aq];cases c with
  |false=>
   rw[bp,ae];exact no λe=>by
    rw[<-e,e1]at e2;cases e2;cases hc.2 rfl
  |true=>
   have eX:a=b:=hc.1 rfl;rw[bm,af,Zc];refine aP (xs.length-(i+1)) _ _ (by omega) ⟨i+1,rfl,by omega,by omega,rfl,λj hj=>?_⟩;by_cases kH:j<i
   .exact cS j kH
   .have:j=i:=by omega
    subst this;rw[e1,e2,eX]
 .rw[aB (show ¬(i:Int)<(xs.length:Int) by omega),af,Zd]
  refine .mk ⟨true,rfl,?_⟩;simp only[true_iff];exact rk λj=>by
   by_cases hj:j<i
   .exact cS j hj
   .rw[nX (by omega),nX (by omega)]
theorem ZfJ (n:Nat) (ws vs:ak) (a b:ai) (st:St) (ha:Sl st a (ints ws)) (hb:Sl st b (ints vs)) (hn:ws.length+2<=n) (hs:ws.length<1000000):
  Ok (λo=>o=(.val [.bool (decide (ws=vs))],st)) (run Bd n 114 [.slice 1 a ws.length,.slice 1 b vs.length] st):=by
 obtain⟨n,rfl⟩: ∃m,n=m+1:=⟨n-1,by omega⟩;rw[Ze,h.abr,ZnC];exact Zti _ n ws vs 1 1 a b st (.inl rfl) (.inl rfl) ha hb
theorem Zsh (n:Nat) (x y:eO) (z1 z2 z3:Nat) (p1 p2 p3:ai) (zI DE DF:Nat) (q1 q2 q3:ai) (st:St) (hZ:z1=2\/p1=none) (gD:z2=1\/p2=none) (kL:z3=1\/p3=none)
  (IY:zI=2\/q1=none) (V7:DE=1\/q2=none) (V8:DF=1\/q3=none) (hx:ny st x p1 p2 p3) (hy:ny st y q1 q2 q3) (sz:BZ x) (hn:50200<=n):
  Ok (λo=>∃b,o=(.val [.bool b],st)/\(b=true↔x=y)) (run Bd n 174 [.agg (dK x z1 p1 z2 p2 z3 p3),.agg (dK y zI q1 DE q2 DF q3)] st):=by
 obtain⟨n,rfl⟩: ∃m,n=m+1:=⟨n-1,by omega⟩;rw[Ze,h.abJ];unfold Q3 ZK ZF az bd Lb uf;have ag: ∀(v:eO) (z1 z2 z3:Nat) (p1 p2 p3:ai) (l:ah) (K:ah->ah->M ah),bn (.agg (dK v z1 p1 z2 p2 z3 p3)::l) K=K (dK v z1 p1 z2 p2 z3 p3) l:=λ_ _ _ _ _ _ _ _ _=>rfl
 simp only[ag];unfold dK;simp only[av,Zg 2 z1 p1 _ hZ,Zg 1 z2 p2 _ gD,Zg 1 z3 p3 _ kL,Zg 2 zI q1 _ IY,Zg 1 DE q2 _ V7,Zg 1 DF q3 _ V8,aq,Za];have no:x≠y->Ok (λo=>∃b,o=(.val [.bool b],st)/\(b=true↔x=y)) (some (Out.val [DV.bool false],st)):=λhm=> .mk ⟨false,rfl,by simp[hm]⟩
 have hg:((x.blocks==y.blocks)&&((x.cO==y.cO)&&((x.g==y.g)&&true)))=true↔x.blocks=y.blocks/\x.cO=y.cO/\x.g=y.g:=by
  simp only[wE,aR,kU]
 cases oM:((x.blocks==y.blocks)&&((x.cO==y.cO)&&((x.g==y.g)&&true)))with
 |false=>
  rw[af];simp only[au,aq,af,Zd];refine no λe=>?_
  rw[hg.2 ⟨by rw[e],by rw[e],by rw[e]⟩]at oM;cases oM
 |true=>
 have uK:=hg.1 oM;rw[ae];refine Ok.call (Zlc h h n 2 2 x.aU y.aU p1 q1 st (.inl rfl) (.inl rfl) hx.hp hy.hp sz.h (by omega)) ?_;rintro _ ⟨c,rfl,hc⟩;refine⟨_,st,rfl,?_⟩;simp only[au,aq];cases c with
 |false=>
  rw[af];simp only[af,Zd];exact no λe=>by cases hc.2 (by rw[e])
 |true=>
 have Ie:=hc.1 rfl;rw[ae];refine Ok.call (ZfJ n x.aH y.aH p2 q2 st hx.gn hy.gn (by have:=sz.g;omega) (by have:=sz.g;omega)) ?_;rintro _ rfl;refine⟨_,st,rfl,?_⟩;simp only[au,aq];by_cases qJ:x.aH=y.aH;rotate_left
 .rw[aB qJ,af]
  simp only[Zd];exact no λe=>qJ (by rw[e])
 rw[aw qJ,ae];refine Ok.call (ZfJ n x.free y.free p3 q3 st hx.fr hy.fr (by have:=sz.f;omega) (by have:=sz.f;omega)) ?_;rintro _ rfl;refine⟨_,st,rfl,?_⟩;simp only[au,aq,Zd];by_cases ew:x.free=y.free;rotate_left
 .rw[aB ew]
  exact no λe=>ew (by rw[e])
 rw[aw ew];refine .mk ⟨true,rfl,?_⟩;simp only[true_iff];cases x;cases y;simp only at uK qJ ew Ie;obtain⟨h1,h2,h3⟩:=uK;subst h1 h2 h3 qJ ew Ie;rfl
theorem ub (w j:Nat):fF w j=w.testBit j:=by rw[Nat.testBit_eq_decide_div_mod_eq];rfl
theorem Ztk: ∀(w:Nat),0<w->∃k m,w=2^k*(2*m+1)
 |0,h=>absurd h (by decide)
 |w+1,_=>by
  by_cases h:(w+1)%2=1
  .exact⟨0,(w+1)/2,by omega⟩
  .obtain⟨k,m,e⟩:=Ztk ((w+1)/2) (by omega)
   exact⟨k+1,m,by rw[vm,Nat.mul_right_comm,<-e];omega⟩
termination_by w=>w
decreasing_by omega
theorem yv (k a j:Nat):(2^k*a).testBit j=(decide (k<=j)&&a.testBit (j-k)):=by
 rw[Nat.testBit_two_pow_mul]
theorem Hb (m i:Nat):(2*m+1).testBit i=(decide (i=0)||(2*m).testBit i):=by
 cases i with
 |zero=>simp[Nat.testBit_zero]
 |succ i=>
  rw[Nat.testBit_succ,Nat.testBit_succ,show(2*m+1)/2=m by omega,show 2*m/2=m by omega];simp
theorem Zp0 (m:Nat):(2*m).testBit 0=false:=by simp[Nat.testBit_zero]
theorem ZwT (k a b j:Nat) (h:b<2^k):(2^k*a+b).testBit j=if j<k then b.testBit j else a.testBit (j-k):=by
 rw[Nat.testBit_two_pow_mul_add a h]
theorem ZwQ (k m:Nat):2^k*(2*m+1)&&& (2^k*(2*m+1)-1)=2^k*(2*m):=by
 have hp:0<2^k:=BO k;have e:2^k*(2*m+1)-1=2^k*(2*m)+(2^k-1):=by rw[Nat.mul_add,cP];omega
 rw[e];refine Gf λj=>?_
 rw[Nat.testBit_and,yv,ZwT k _ _ j (by omega),yv];by_cases hj:j<k
 .rw[aB (by omega)];simp
 .rw[aW hj,aw (show k<=j by omega),Hb]
  cases h0:decide (j-k=0)with
  |true=>rw[iR h0,Zp0];rfl
  |false=>simp
theorem Zx2 (k m n:Nat) (hk:k<n) (h:2^k*(2*m+1)<2^n):2^k*(2*m+1)&&& (2^n-2^k*(2*m+1))=2^k:=by
 have hp:0<2^k:=BO k;have hn:2^n=2^k*(2*2^(n-k-1)):=by rw[<-Nat.pow_succ',<-Nat.pow_add];congr 1;omega
 rw[hn]at h⊢;have hm:2*m+1<2*2^(n-k-1):=Nat.lt_of_mul_lt_mul_left h;have gK:m<2^(n-k-1):=by omega
 rw[<-Nat.mul_sub,show 2*2^(n-k-1)-(2*m+1)=2*(2^(n-k-1)-(m+1))+1 by omega];refine Gf λj=>?_
 rw[Nat.testBit_and,yv,yv,Nat.testBit_two_pow,Hb,Hb];by_cases hj:k<=j
 .rw[aw hj]
  by_cases h0:j=k
  .subst h0;simp
  .rw[aB (show ¬k=j by omega),aB (show ¬j-k=0 by omega)]
   obtain⟨i,hi⟩: ∃i,j-k=i+1:=⟨j-k-1,by omega⟩;rw[hi,Nat.testBit_succ,Nat.testBit_succ,Nat.mul_div_cancel_left _ (by decide),Nat.mul_div_cancel_left _ (by decide),Nat.testBit_two_pow_sub_succ gK];cases m.testBit i<;>simp
 .rw[aB hj,aB (show ¬k=j by omega)];rfl
def qA (w:Nat):al:=(List.range 64).filter (fF w)
theorem ZtW:qA 0=[]:=by
 unfold qA;rw[List.filter_eq_nil_iff];intro j _;rw[ub,Nat.zero_testBit];simp
theorem ZuN (k n:Nat) (h:k<n):List.range n=List.range k++k::List.range' (k+1) (n-k-1):=by
 have:n=k+(1+(n-k-1)):=by omega
 rw[List.range_eq_range',List.range_eq_range']
 conv=>lhs;rw[this]
 rw[<-List.range'_append_1,sN 1,JO,ej]
theorem Zup (k m:Nat) (hk:k<64):qA (2^k*(2*m+1))=k::qA (2^k*(2*m)):=by
 unfold qA;rw[ZuN k 64 hk,Ga,Ga,List.filter_cons,List.filter_cons];have h1: ∀a,(List.range k).filter (fF (2^k*a))=[]:=λa=>by
  rw[List.filter_eq_nil_iff];intro j hj;rw[ub,yv,aB (by have:=yj.1 hj;omega)];simp
 have h2:fF (2^k*(2*m+1)) k=true:=by rw[ub,yv,Hb];simp
 have h3:fF (2^k*(2*m)) k=false:=by rw[ub,yv,Nat.sub_self,Zp0];simp
 rw[h1,h1,h2,h3,bw rfl,aW (by decide),gU,gU];refine congrArg (k:: ·) (List.filter_congr λj hj=>?_);rw[ub,ub,yv,yv,Hb,aB (show ¬j-k=0 by have:=List.mem_range'_1.1 hj;omega)];rfl
theorem Rn (w:Nat):(qA w).length<=64:=by
 have:=List.length_filter_le (fF w) (List.range 64);rw[JL]at this;exact this
def w4:Nat->al->ak
 |_,[]=>[]
 |b,w::r=>(qA w).map (λj=>((b*64+j:Nat):Int))++w4 (b+1) r
def dJ (W:al):ak:=w4 0 W
theorem ZnY: ∀(b:Nat) (W:al),(w4 b W).length<=64*W.length
 |_,[]=>aL _
 |b,w::r=>by
  unfold w4;have:=ZnY (b+1) r;have:=Rn w;rw[bz,nY,cH];omega
theorem ZnD: ∀(b:Nat) (W:al) (w:Nat),w4 b (W++[w])=w4 b W++(qA w).map (λj=>(((b+W.length)*64+j:Nat):Int))
 |b,[],w=>by simp[w4]
 |b,x::r,w=>by
  rw[nr];unfold w4;rw[ZnD (b+1) r w,fD,cH,Nat.add_right_comm b 1,tO b]
theorem Zun (W:al) (h:i<W.length):dJ (W.take (i+1))=dJ (W.take i)++(qA W[i]).map (λj=>((i*64+j:Nat):Int)):=by
 unfold dJ;rw[kS h,ZnD,cz,kT (by omega),ej]
def Oi (Bd:Zh):Prop:=∀(n k m:Nat) (st:St),wM st->k<64->2^k*(2*m+1)<18446744073709551616->run Bd (n+1) 86 [.int .u64 ((2^k*(2*m+1):Nat):Int)] st=some (.val [.int .i64 (k:Int)],st)
theorem ZvI {a b:Nat} (ha:a<18446744073709551616) (hb:b<18446744073709551616:=by omega):bits .and .u64 (a:Int) (b:Int)=((a&&& b:Nat):Int):=Xt ha hb
theorem PF (W:al) (i:Nat):(dJ (W.take i)).length<=64*W.length:=by
 have h1:=ZnY 0 (W.take i);unfold dJ;rw[cz]at h1;have:min i W.length<=W.length:=Nat.min_le_right _ _;omega
theorem Zk4 (hz:Oi Bd) (n:Nat) (st:St) (ht:wM st) (hs:gm st f i j m W) (hn:80<=n:=by omega):
  Ok (λo=>∃p s',o=(.val [.slice 1 p (dJ W).length],s')/\aD st s'/\Sl s' p (ints (dJ W))/\∀b∈aM p,st.length<=b) (run Bd n 172 [.ptr (some (i,0))] st):=by
 obtain⟨n,rfl⟩: ∃k,n=k+2:=⟨n-2,by omega⟩;rw[Ze,h.abH];unfold Pq jn gk lJ B3 cQ bD eW nv Li j1;simp only[gj,aq,aX];rw[Zo hs.hd rfl];simp only[lG,Za];have hle:=hs.le;have hlen:=hs.len;refine Zj _ (λq y s=>∃(a z:Nat) (p:ai),y=[.slice z p (dJ (W.take a)).length,.int .i64 a]/\(z=1\/p=none)/\a<=W.length/\W.length-a<=q/\ba st s p (ints (dJ (W.take a)))) ?_ W.length (n+1) _ _ ⟨0,0,none,rfl,.inr rfl,cn _,by omega,ba.nil (.refl st)⟩ (by omega);rintro q _ s ⟨a,z,p,rfl,Wb,ha,hq,ho⟩ rec aP;simp only[av,Zg 1 z p _ Wb,aq];have fm:=hs.pre ho.1;by_cases ax:a<W.length
 .rw[aw (show(a:Int)<(W.length:Int) by omega),ae,aX,Zb (Zi ax),bu]
  have V2:W[a]? =some W[a]:=bU ax;have IW:=hs.lt _ (jG ax);rw[Zo (d:= .int .u64 (W[a]:Nat)) fm.wd (by rw[cP,fT];simp[ZV,ax])];simp only[aY];have vW:=Zun W ax;have hA:=PF W a;have hB:=PF W (a+1);generalize dJ (W.take a)=A at ho vW hA;generalize W[a]=w at IW vW;have cG:ar ((a:Int)+1)=((a+1:Nat):Int):=Zc;have fP:ar ((a:Int)*64)=((a*64:Nat):Int):=by rw[Zc];omega
  simp only[cG,fP];obtain⟨F,hF⟩: ∃F:Nat->Int,(λj=>((a*64+j:Nat):Int))=F:=⟨_,rfl⟩;rw[hF]at vW;refine Zj _ (λq' y t=>∃(w' z':Nat) (D:al) (p':ai),y=[.slice z' p' (A++D.map F).length,.int .u64 (w':Int)]/\(z'=1\/p'=none)/\w'<18446744073709551616/\D++qA w'=qA w/\(qA w').length<=q'/\ba st t p' (ints (A++D.map F))) ?_ 64 (n+1) _ _ ⟨w,1,[],p,by rw[List.map_nil,gG],.inl rfl,IW,rfl,Rn w,by rw[List.map_nil,gG];exact ho⟩ (by omega);rintro q' _ t ⟨w',z',D,p',rfl,afW,YR,hD,y7,si⟩ dA kh;simp only[av,Zg 1 z' p' _ afW,aq];by_cases FQ:w'=0
  .subst FQ
   rw[show(!(((0:Nat):Int)==0))=false from rfl,af];simp only[bc,aq];rw[ZtW,gG]at hD;rw[hD,<-vW]at si⊢;exact aP (W.length-(a+1)) _ _ (by omega) ⟨a+1,1,p',rfl,.inl rfl,by omega,aL _,si⟩
  .have hnz:(!((w':Int)==0))=true:=by rw[kR,dY];omega
   obtain⟨k,m',e⟩:=Ztk w' (by omega);have hk:k<64:=by
    rcases jH k 64 with h|h
    .exact h
    .have h1:2^64<=2^k:=l9 (by decide) h
     have h2:2^k*1<=2^k*(2*m'+1):=Nat.mul_le_mul_left _ (by omega);have h3:(2:Nat)^64=18446744073709551616:=by decide
     omega
   rw[hnz,ae];subst e;rw[Zk (hz n k m' t (ht.mono si.1) hk YR)];simp only[av,aq];have jO:ar (((a*64:Nat):Int)+(k:Int))=F k:=by rw[<-hF];exact Zc
   rw[jO];have ze:IntKind.wrap .u64 (((2^k*(2*m'+1):Nat):Int)-1)=((2^k*(2*m'+1)-1:Nat):Int):=by
    have h1:(((2^k*(2*m'+1):Nat):Int)-1)=((2^k*(2*m'+1)-1:Nat):Int):=by omega
    rw[h1];exact yF
   have iY:bits .and .u64 (((2^k*(2*m'+1):Nat):Int)) (IntKind.wrap .u64 (((2^k*(2*m'+1):Nat):Int)-1))=((2^k*(2*m'):Nat):Int):=by
    rw[ze,ZvI YR,ZwQ]
   rw[iY];rw[Zup k m' hk]at hD y7;have hlD:(A++D.map F).length<=1000000:=by
    have h1:=congrArg List.length hD;rw[bz]at h1;have:=Rn w;rw[bz,nY];omega
   obtain⟨p2,s2,c8,qM,he⟩:=si.BD (β:=ah) (sz:=1) (n:=(A++D.map F).length) (lim:=8796093022208) [.int .i64 (F k)] (wI 0) (by simp[ints]) rfl (by omega);refine Eq.mpr (congrArg (Ok _) (he _)) ?_;refine kh (qA (2^k*(2*m'))).length _ _ (by simp at y7;omega) ⟨_,1,D++[k],p2,?_,.inl rfl,?_,by rw[fD];exact hD,aL _,?_⟩
   .rw[fg,<-fD,bz (as:=A++D.map F)];rfl
   .have:2^k*(2*m')<=2^k*(2*m'+1):=Nat.mul_le_mul_left _ (by omega)
    omega
   .rw[fg,<-fD]
    unfold ints at c8⊢;rw[fg (l₁:=A++D.map F)];exact c8
 .rw[aB (show ¬(a:Int)<(W.length:Int) by omega),af]
  simp only[bc,aq,Zd];rw[dq (by omega)]at ho⊢;refine .mk ⟨p,s,rfl,ho.1,ho.sl,λb hb=>?_⟩;rcases ho.2 with⟨rfl,_⟩|⟨i',rfl,h1,_⟩
  .cases hb
  .rw[cj.1 hb];exact h1
theorem ZrO (n:Nat) (st:St) (hs:gm st f i j m W):run Bd (n+1) 212 [.ptr (some (i,0))] st=some (.val [.int .i64 (m:Int)],st):=by
 rw[Ze,h.ach];unfold Pj jn Zm Li;simp only[gj,aq,aX];rw[Zo hs.hd rfl];rfl
def aah (x:Int):Int:=match Oy (λ_ _=>fail) 0 [.int .u64 x] []with
 |some (.val [.int _ v],_)=>v
 |_=>0
theorem ZqV (n:Nat) (x:Int) (st:St):run Bd (n+1) 210 [.int .u64 x] st=some (.val [.int .i64 (aah x)],st):=by
 rw[Ze,h.acf];rfl
def Tv:Int->al->Int
 |a,[]=>a
 |a,w::r=>Tv (ar (a+aah w)) r
def LS (W:al):Int:=Tv 0 W
theorem Zqn (n:Nat) (st:St) (hs:gm st f i j m W) (hn:80<=n):Ok (λo=>o=(.val [.int .i64 (LS W)],st)) (run Bd n 183 [.ptr (some (i,0))] st):=by
 obtain⟨n,rfl⟩: ∃k,n=k+2:=⟨n-2,by omega⟩;rw[Ze,h.abN];unfold OM jn oj gP B3 cQ Li nv fV;simp only[gj,aq,aX];rw[Zo hs.hd rfl];simp only[lG,Za];have hle:=hs.le;have hlen:=hs.len;refine Zj _ (λq y s=>∃(a:Nat) (c:Int),y=[.int .i64 c,.int .i64 a]/\a<=W.length/\W.length-a<=q/\s=st/\Tv c (W.drop a)=LS W) ?_ W.length (n+1) _ _ ⟨0,0,rfl,cn _,by omega,rfl,rfl⟩ (by omega);rintro q _ s ⟨a,c,rfl,ha,hq,rfl,hc⟩ rec aP;simp only[av,aq];by_cases ax:a<W.length
 .rw[aw (show(a:Int)<(W.length:Int) by omega),ae,aX,Zb (Zi ax),bu]
  rw[Zo (d:= .int .u64 (W[a]:Nat)) hs.wd (by rw[cP,fT];simp[ZV,ax])];simp only[aY];rw[Zk (ZqV n _ s)];simp only[av,aq];have cG:ar ((a:Int)+1)=((a+1:Nat):Int):=Zc;rw[cG];refine aP (W.length-(a+1)) _ _ (by omega) ⟨a+1,_,rfl,by omega,aL _,rfl,?_⟩;rw[<-hc,iI ax];rfl
 .rw[aB (show ¬(a:Int)<(W.length:Int) by omega),af]
  simp only[Zd];rw[kz (by omega)]at hc;exact .mk (by rw[<-hc];rfl)
theorem ZoW (n:Nat) (W V:al) (a b:Nat) (f g:Bool) (st:St) (ha:st[a]? =some (some ⟨f,ZV W⟩)) (hb:st[b]? =some (some ⟨g,ZV V⟩)) (hW:W.length<100000) (hn:W.length+3<=n):
  Ok (λo=>o=(.val [.bool (decide (W=V))],st)) (run Bd n 236 [.slice 1 (some (a,0)) W.length,.slice 1 (some (b,0)) V.length] st):=by
 obtain⟨n,rfl⟩: ∃k,n=k+2:=⟨n-2,by omega⟩;rw[Ze,h.acG];unfold Oq ck Q_ cI B3 Lb Li;simp only[bc,aq];have no:W≠V->Ok (λo=>o=(.val [.bool (decide (W=V))],st)) ((ay [.bool false]:M ah) st):=by
  intro hm;rw[Zd];exact .mk (by rw[aB hm])
 by_cases hlen:W.length=V.length;rotate_left
 .rw[show((W.length:Int)==(V.length:Int))=false from dY.2 (by omega),bp,ae]
  grind
 rw[show((W.length:Int)==(V.length:Int))=true by rw[hlen];simp,bm,af,Za];refine Zj _ (λk v s=>∃i:Nat,v=[.int .i64 i]/\i<=W.length/\W.length-i<=k/\s=st/\∀j,j<i->W[j]? =V[j]?) ?_ W.length (n+1) _ _ (by grind) (by omega);rintro k _ s ⟨i,rfl,hi,hk,rfl,cS⟩ rec aP;simp only[av,aq];by_cases ax:i<W.length
 .have kb:i<V.length:=by omega
  rw[aw (show(i:Int)<(W.length:Int) by omega),ae,aX,Zb (Zi ax),bu];rw[Zo (d:= .int .u64 (W[i]:Nat)) ha (by rw[cP,fT];simp[ZV,ax])];simp only[aY];rw[aX,Zb (Zi kb)];rw[Zo (d:= .int .u64 (V[i]:Nat)) hb (by rw[cP,fT];simp[ZV,kb])];simp only[aY];by_cases hw:W[i]=V[i]
  .rw[show(((W[i]:Nat):Int)==((V[i]:Nat):Int))=true by rw[hw];simp,bm,af,Zc]
   refine aP (W.length-(i+1)) _ _ (by omega) ⟨i+1,rfl,by omega,by omega,rfl,λj hj=>?_⟩;by_cases kH:j<i
   .exact cS j kH
   grind
  grind
 .rw[aB (show ¬(i:Int)<(W.length:Int) by omega),af,Zd]
  refine .mk ?_;have:W=V:=rk λj=>by
   by_cases hj:j<i
   .exact cS j hj
   grind
  rw[aw this]
theorem Zli (n:Nat) (st:St) (hs:gm st f i j m W) (jN:gm st g i2 j2 m2 V) (hn:80<=n:=by omega):
  Ok (λo=>o=(.val [.bool (decide (m=m2)&&decide (W=V))],st)) (run Bd n 202 [.ptr (some (i,0)),.ptr (some (i2,0))] st):=by
 obtain⟨n,rfl⟩: ∃k,n=k+1:=⟨n-1,by omega⟩;rw[Ze,h.ab6];unfold Po jn Zm az bd Lb uf;simp only[gj,aq,aX];rw[Zo hs.hd rfl];simp only[aY];rw[Zo jN.hd rfl];simp only[aY,Za];have hle:=hs.le;have hlen:=hs.len;by_cases hm:m=m2
 .rw[show((m:Int)==(m2:Int))=true by rw[hm];simp,ae,Zo hs.hd rfl]
  simp only[lG];rw[Zo jN.hd rfl];simp only[lG];refine Ok.call (ZoW n W V j j2 f g st hs.wd jN.wd (by omega) (by omega)) ?_;rintro _ rfl;refine⟨_,st,rfl,?_⟩;simp only[au,aq,Zd];exact .mk (by rw[aw hm,de])
 .rw[show((m:Int)==(m2:Int))=false from dY.2 (by omega),af]
  simp only[au,aq,Zd];exact .mk (by rw[aB hm,eG])
def rO (l:List ZN):ah:=(l.map ZS).flatten
theorem Kv {x:ZN} (h:x.dH.length=48):(ZS x).length=49:=by simp[ZS,cH,Zq,h]
theorem Q5: ∀ {l:List ZN},(∀x∈l,x.dH.length=48)->(rO l).length=l.length*49
 |[],_=>rfl
 |x::l,h=>by
  show(ZS x++rO l).length=_;rw[bz,Kv (h x (by simp)),Q5 λy hy=>h y (by simp[hy]),cH];omega
theorem ZmQ: ∀ {l:List ZN} {j:Nat} {e:ZN},(∀x∈l,x.dH.length=48)->l[j]? =some e->((rO l).drop (j*49)).take 49=ZS e
 |[],j,e,_,h=>by simp at h
 |x::l,0,e,hl,h=>by
  simp only[lB,fU]at h;subst h;rw[od,dj];have:=Kv (hl x (by simp));show(ZS x++rO l).take 49=_;rw[<-this,BK]
 |x::l,j+1,e,hl,h=>by
  have e2:rO (x::l)=ZS x++rO l:=rfl;have h49:=Kv (hl x (by simp));rw[e2,show(j+1)*49=(ZS x).length+j*49 by omega,<-jX,BI];exact ZmQ (by grind) (by simpa using h)
theorem Zs8 (l m:List ZN):rO (l++m)=rO l++rO m:=by
 simp[rO]
def BC (m:Nat) (x:ZN):Bool:=bif decide (0<(eK x 384).length)then decide ((eK x 384).getLastD 0>=(m:Int))else false
def Au (m:Nat):Nat->List ZN->al->Option (al)
 |_,[],W=>some W
 |i,x::r,W=>bif decide (x.no=i)&& !BC m x then Au m (i+1) r ((eK x 384).foldl (bX m) W)else none
def AL (m:Nat) (l:List ZN):Option (al):=bif decide ((l.length:Int)=qa m 384)then Au m 0 l (kM m [])else none
theorem Zpe (n:Nat) (x:Int) (st:St):run Bd (n+1) 240 [.int .i64 x] st=some (.val [.int .i64 (qa x 384)],st):=by
 rw[Ze,h.acK];rfl
theorem Zq1 (n m:Nat) (l:List ZN) (p:ai) (z:Nat) (st:St) (hm:m<=3072) (hz:z=49\/p=none) (hl:Sl st p (rO l)) (uF: ∀x∈l,x.dH.length=48/\x.no<8) (gZ:l.length<1000) (hn:2000<=n):
  Ok (λo=>∃s',aD st s'/\match AL m l with
   |none=>o=(.val [.ptr none,.bool false],s')
   |some F=>∃i j,o=(.val [.ptr (some (i,0)),.bool true],s')/\gm s' false i j m F) (run Bd n 200 [.int .i64 (m:Int),.slice z p l.length] st):=by
 obtain⟨n,rfl⟩: ∃k,n=k+2:=⟨n-2,by omega⟩;obtain⟨R,hR⟩: ∃R,AL m l=R:=⟨_,rfl⟩;rw[hR];unfold AL at hR;rw[Ze,h.ab4];unfold Ri az BS Q_ cI N_ mc C_ Zm cQ Li Lb;simp only[av,Zg 49 z p _ hz,aq];rw[Za,aB (show ¬((m:Nat):Int)<0 by omega),af,aB (show ¬((m:Nat):Int)>3072 by omega)];simp only[au,aq];rw[Za,af,Zk (Zpe n m st)];simp only[av,au,aq];have hq:(((l.length:Nat):Int)==qa m 384)=decide (((l.length:Nat):Int)=qa m 384):=rfl;rw[hq];cases Fl:decide (((l.length:Nat):Int)=qa m 384)with
 |false=>
  rw[Fl,af]at hR;rw[bp,ae,Zd,<-hR];exact .mk ⟨st,.refl st,rfl⟩
 |true=>
 rw[Fl,ae]at hR;rw[bm,af];obtain⟨s1,e1,aG,MR,Nd⟩:=Ru (n+1) m [] none st hm rfl (by show 0<1000000;omega) (by grind);have xo:run Bd (n+1) 177 [.int .i64 (m:Int),.slice 0 none 0] st=some (.val [.ptr (some (st.length+1,0))],s1):=by
  rw[Ze,h.XG]at e1⊢;exact e1
 rw[Zk xo];simp only[gj,aq];rw[Za];refine Zj _ (λq y s=>∃(i:Nat) (W:al),y=[.int .i64 i]/\i<=l.length/\l.length-i<=q/\aD st s/\gm s false (st.length+1) st.length m W/\Au m i (l.drop i) W=R) ?_ l.length (n+1) _ _ ⟨0,_,rfl,cn _,by omega,aG,Nd,hR⟩ (by omega);rintro q _ s ⟨i,W,rfl,hi,hq,gS,db,aN⟩ rec aP;simp only[av,aq];by_cases ax:i<l.length
 .have dG:=hl.mono gS
  have lV:l[i]? =some l[i]:=bU ax;obtain⟨Us,h8x⟩:=uF _ (jG ax);have hlen:=Q5 λx hx=>(uF x hx).1
  obtain⟨i1,o1,rfl⟩:=dG.cD (by rw[hlen];omega);have fH:l.drop i=l[i]::l.drop (i+1):=iI ax;rw[fH]at aN;rw[aw (show(i:Int)<(l.length:Int) by omega),ae,aX,Zb (Zi ax),bu,dG.xy (k:=i*49) (n:=49) (by rw[hlen];omega),ZmQ (λx hx=>(uF x hx).1) lV];generalize l[i]=x at aN Us h8x;unfold Au at aN;have iM:(bK x.dH).length=48:=by rw[Zq,Us]
  show Ok _ (aF .i64 (.int .i64 x.no::bK x.dH) _ s);simp only[av];rw[bF iM,bF (by simp[iM])];refine Ok.call (ZqA (n+1) x Us h8x s (by omega)) ?_;rintro _ ⟨px,s2,rfl,aZ,vO⟩;refine⟨_,s2,rfl,?_⟩;simp only[bc,aq];have xL:=db.pre aZ;have aht:=ZpR x 384;have kK: ∀t,aD st t->R=none->Ok (λo=>∃s',aD st s'/\match R with
   |none=>o=(.val [.ptr none,.bool false],s')
   |some F=>∃i j,o=(.val [.ptr (some (i,0)),.bool true],s')/\gm s' false i j m F) ((ay [.ptr none,.bool false]:M ah) t):=by
   intro t ht e;rw[e,Zd];exact .mk ⟨t,ht,rfl⟩
  have du:((((x.no:Nat):Int))==((i:Nat):Int))=decide (x.no=i):=by
   by_cases e:x.no=i
   .rw[e,aw rfl];grind
   grind
  rw[du];cases cx:decide (x.no=i)with
  |false=>
   rw[cx,eG,af]at aN;rw[Za,bp,ae];simp only[au,aq,ae];exact kK s2 (gS.trans aZ) aN.symm
  |true=>
  rw[cx,de]at aN;obtain⟨ov,uQ⟩: ∃ov,BC m x=ov:=⟨_,rfl⟩;rw[uQ]at aN;unfold BC at uQ;refine Ok.join λcd Bg=>?_
  have hA:Ok (λo=>∃s',aD st s'/\match R with
   |none=>o=(.val [.ptr none,.bool false],s')
   |some F=>∃i j,o=(.val [.ptr (some (i,0)),.bool true],s')/\gm s' false i j m F) (cd [.bool ov] s2):=by
   rw[Bg];simp only[au,aq];cases ov with
   |true=>
    rw[bm,af]at aN;rw[ae];exact kK s2 (gS.trans aZ) aN.symm
   |false=>
    rw[bp,ae]at aN;rw[af];have IC:lI [st.length] px:=λb o e hb=>by
     rw[cj.1 hb]at e;subst e;obtain⟨all,e1⟩:=vO.2 _ _ rfl;rw[xL.wd]at e1;cases e1
    rw[Zk (Ki (n+1) (eK x 384) px s2 xL (by omega) vO.1 IC)];simp only[aq];have cG:ar ((i:Int)+1)=((i+1:Nat):Int):=Zc;rw[cG];have afg:=gS.trans aZ;refine aP (l.length-(i+1)) _ _ (by omega) ⟨i+1,_,rfl,by omega,aL _,wV afg (aL _) _,xL.add (by omega) _ (by rw[(pF m _ _).1]) ((pF m _ _).2 xL.lt),aN⟩
  rw[bm,af,Za];cases vT:decide (0<(eK x 384).length)with
  |false=>
   rw[vT,af]at uQ;have:=BP vT;rw[aB (show ¬(((eK x 384).length:Nat):Int)>0 by omega),af];simp only[au,aq];grind
  |true=>
   rw[vT,ae]at uQ;have ahA:=iR vT;obtain⟨i2,o2,rfl⟩:=vO.1.cD (by simp[ints];omega);have fP:ar ((((eK x 384).length:Nat):Int)-1)=(((eK x 384).length-1:Nat):Int):=by rw[Zc];omega
   rw[aw (show(((eK x 384).length:Nat):Int)>0 by omega),ae,aX,fP,Zb (Zi),bu,vO.1.dL (ZA)];simp only[aY];have Il:(eK x 384)[(eK x 384).length-1]'(by omega)=(eK x 384).getLastD 0:=by
    rw[List.getLastD_eq_getLast?,List.getLast?_eq_getElem?,bU (by omega)];rfl
   rw[Il,uQ];simp only[au,aq];exact hA
 .rw[aB (show ¬(i:Int)<(l.length:Int) by omega),af]
  simp only[Zd];rw[kz (by omega)]at aN;rw[<-aN];exact .mk ⟨s,gS,_,_,rfl,db⟩
def eN (v:Int):Nat:=(v%18446744073709551616).toNat
def rb (v:Int):UInt8:=UInt8.ofNat (v%256).toNat
theorem sW (v:Int):eN v<18446744073709551616:=by unfold eN;omega
theorem Ei (v:Int):IntKind.wrap .u64 v=((eN v:Nat):Int):=by
 have e:v=v/18446744073709551616*18446744073709551616+((eN v:Nat):Int):=by unfold eN;omega
 have h:=yF (sW v);have hm:IntKind.wrap .u64 v=v%18446744073709551616:=rfl;rw[hm];unfold eN;omega
theorem ZrZ (v:Int):IntKind.wrap .u8 v=((rb v).toNat:Int):=by
 have hm:IntKind.wrap .u8 v=v%256:=rfl;rw[hm];unfold rb;show _=(((v%256).toNat%256:Nat):Int);omega
theorem ZoN (n:Nat) (v i:Nat) (hv:v<18446744073709551616) (st:St) (hi:i<1000) (hn:i+3<=n):
  Ok (λo=>o=(.val [.int .u8 ((v/256^i%256:Nat):Int)],st)) (run Bd n 248 [.int .u64 (v:Int),.int .i64 (i:Int)] st):=by
 obtain⟨n,rfl⟩: ∃k,n=k+2:=⟨n-2,by omega⟩;rw[Ze,h.acS];unfold Qg cA CA EB lH ZE nv;simp only[av,aq,Za];refine Zj _ (λq y s=>∃k:Nat,y=[.int .u64 ((v/256^k:Nat):Int),.int .i64 (k:Int)]/\k<=i/\i-k<=q/\s=st) ?_ i (n+1) _ _ ⟨0,by rw[Nat.pow_zero,Nat.div_one];rfl,cn _,by omega,rfl⟩ (by omega);rintro q _ s ⟨k,rfl,hk,hq,rfl⟩ rec aP;simp only[av,aq];have hd:v/256^k<18446744073709551616:=DM (DL _ _) hv;by_cases ax:k<i
 .rw[aw (show(k:Int)<(i:Int) by omega),ae]
  have h1:((v/256^k:Nat):Int).tdiv 256=((v/256^(k+1):Nat):Int):=by
   rw[vm,<-Nat.div_div_eq_div_mul];rfl
  have h2:v/256^(k+1)<18446744073709551616:=by grind
  rw[h1,yF h2,Zc];exact aP (i-(k+1)) _ _ (by omega) (by grind)
 .rw[aB (show ¬(k:Int)<(i:Int) by omega),af]
  have:k=i:=by omega
  subst this;simp only[Zd];refine .mk ?_;have h1:((v/256^k:Nat):Int).tmod 256=((v/256^k%256:Nat):Int):=rfl;rw[h1];have h2:IntKind.wrap .u8 ((v/256^k%256:Nat):Int)=((v/256^k%256:Nat):Int):=by
   show((v/256^k%256:Nat):Int)%256=_;omega
  rw[h2]
theorem ZuZ (v n:Nat):dF v (n+1)=dF v n++[UInt8.ofNat (v/256^n)]:=by
 rw[Zr2];rfl
theorem Zud (x:Nat) (_h:x<256):sZ [.int .u8 (x:Int)]=some [UInt8.ofNat x]:=rfl
theorem Z8 (n:Nat) (v k:Nat) (hv:v<18446744073709551616) (st:St) (hk:k<1000:=by omega) (hn:k+10<=n:=by omega):
  Ok (λo=>∃s',o=(.val [.str (dF v k)],s')/\aD st s') (run Bd n 213 [.int .u64 (v:Int),.int .i64 (k:Int)] st):=by
 obtain⟨n,rfl⟩: ∃k,n=k+2:=⟨n-2,by omega⟩;rw[Ze,h.aci];unfold QS cA sR tY Ls ZE lH eM;simp only[av,aq,Za];refine Zj _ (λq y s=>∃i:Nat,y=[.str (dF v i),.int .i64 (i:Int)]/\i<=k/\k-i<=q/\aD st s) ?_ k (n+1) _ _ ⟨0,rfl,cn _,by omega,.refl st⟩ (by omega);rintro q _ s ⟨i,rfl,hi,hq,hp⟩ rec aP;simp only[bP,av,aq];by_cases ax:i<k
 .rw[aw (show(i:Int)<(k:Int) by omega),ae]
  refine Ok.call (ZoN (n+1) v i hv s (by omega) (by omega)) ?_;rintro _ rfl;refine⟨_,s,rfl,?_⟩;simp only[av,aq];rw[Zy,Hj (by show 0+1<=1;omega)];show Ok _ (kE [.int .u8 ((v/256^i%256:Nat):Int)] _ _);unfold kE;rw[Zud _ (Nat.mod_lt _ (by decide))];simp only;rw[Zb (gf (by rw[Zx];show i+1<=_;omega)),Zc];refine aP (k-(i+1)) _ _ (by omega) ⟨i+1,?_,by omega,aL _,hp.trans (aD.new _ _)⟩;rw[ZuZ];have:UInt8.ofNat (v/256^i%256)=UInt8.ofNat (v/256^i):=by
   refine DS.1 ?_;simp
  rw[this];rfl
 .rw[aB (show ¬(i:Int)<(k:Int) by omega),af]
  have:i=k:=by omega
  subst this;simp only[Zd];exact .mk ⟨s,rfl,hp⟩
theorem ZqF (n:Nat) (x:Nat) (hx:x<4294967296) (st:St):run Bd (n+1) 288 [.int .u32 (x:Int)] st=some (.val [.int .u32 (nU x:Nat)],st):=by
 rw[Ze,h.ado];unfold P2 kA nU;simp only[av,aq];have h1:((x:Int).tmod 2==1)=decide (x%2=1):=by
  have e:(x:Int).tmod 2=((x%2:Nat):Int):=rfl;rw[e];by_cases h:x%2=1
  .rw[h,aw rfl];rfl
  grind
 have h2:(x:Int).tdiv 2=((x/2:Nat):Int):=rfl;rw[h1,h2,Ar];by_cases h:x%2=1
 .rw[aw h,ae,bw h]
  have:=DD (x:=x/2) (y:=2197175160) (by omega);rw[show((2197175160:Nat):Int)=2197175160 from rfl]at this;rw[this];rfl
 .rw[aB h,af,aW h];rfl
theorem Zpf (n:Nat) (x k:Nat) (hx:x<4294967296) (st:St) (hk:k<1000) (hn:k+4<=n):
  Ok (λo=>o=(.val [.int .u32 (ZL k x:Nat)],st)) (run Bd n 264 [.int .u32 (x:Int),.int .i64 (k:Int)] st):=by
 obtain⟨n,rfl⟩: ∃k,n=k+2:=⟨n-2,by omega⟩;rw[Ze,h.ac6];unfold Qj cA xe wS rJ kA pH;simp only[av,aq,Za];have kb: ∀i,ZL i x<4294967296:=λi=>by
  induction i with
  |zero=>exact hx
  |succ i ih=>rw[Kq];exact Zrz ih
 refine Zj _ (λq y s=>∃i:Nat,y=[.int .u32 ((ZL i x:Nat):Int),.int .i64 (i:Int)]/\i<=k/\k-i<=q/\s=st) ?_ k (n+1) _ _ ⟨0,rfl,cn _,by omega,rfl⟩ (by omega);rintro q _ s ⟨i,rfl,hi,hq,rfl⟩ rec aP;simp only[av,aq];by_cases ax:i<k
 .rw[aw (show(i:Int)<(k:Int) by omega),ae,Zk (ZqF n _ (kb i) s)]
  simp only[av,aq];rw[<-Kq,Zc];exact aP (k-(i+1)) _ _ (by omega) (by grind)
 .rw[aB (show ¬(i:Int)<(k:Int) by omega),af]
  have:i=k:=by omega
  subst this;simp only[Zd];exact .mk rfl
theorem ZlF (n:Nat) (a:ai) (l:aj) (st:St) (ha:dz st a l) (hl:l.length<1000000) (hn:l.length+20<=n):
  Ok (λo=>o=(.val [.int .u32 (oA l:Nat)],st)) (run Bd n 242 [.slice 1 a l.length] st):=by
 obtain⟨n,rfl⟩: ∃k,n=k+2:=⟨n-2,by omega⟩;rw[Ze,h.acM];unfold QU ck xe wS N_ lM rJ kA pH;simp only[bc,aq,Za];refine Zj _ (λq y s=>∃(i:Nat),y=[.int .u32 (((l.take i).foldl sB 4294967295:Nat):Int),.int .i64 (i:Int)]/\i<=l.length/\l.length-i<=q/\s=st) ?_ l.length (n+1) _ _ (by grind) (by omega);rintro q _ s ⟨i,rfl,hi,hq,rfl⟩ rec aP;simp only[av,aq];have hx:=Hn (l.take i) (x:=4294967295) (by omega);by_cases ax:i<l.length
 .obtain⟨i1,o1,rfl⟩:=ha.cD (by omega)
  have lV:l[i]? =some l[i]:=bU ax;have fJ:l.take (i+1)=l.take i++[l[i]]:=by simp
  rw[aw (show(i:Int)<(l.length:Int) by omega),ae,aX,Zb (Zi ax),bu,ha.dL lV];simp only[aY];have hc:=(l[i]).toNat_lt;rw[Ar,DD hx];refine Ok.call (Zpf (n+1) _ 8 (Gj (n:=32) (by omega) (by omega)) s (by omega) (by omega)) ?_;rintro _ rfl;refine⟨_,s,rfl,?_⟩;simp only[av,aq];rw[Zc];refine aP (l.length-(i+1)) _ _ (by omega) ⟨i+1,?_,by omega,aL _,rfl⟩;rw[fJ,zM];rfl
 .rw[aB (show ¬(i:Int)<(l.length:Int) by omega),af]
  simp only[Zd];rw[dq (by omega)]at hx⊢;refine .mk ?_;have h1:(4294967295:Int)-((l.foldl sB 4294967295:Nat):Int)=((oA l:Nat):Int):=by unfold oA;omega
  rw[h1,Ar (LJ l)]
def lf (n:Nat):aj:=List.replicate n 0
def ju (s:aj) (n:Nat):aj:=s++lf (n-s.length)
def oU (kind tag:Int) (body:aj):aj:=[rb kind,rb tag,0,0]++ju body 56
def iE (kind tag:Int) (body:aj):aj:=dF (oA (oU kind tag body)) 4++oU kind tag body
theorem ZpX (n:Nat):ig n [.int .u8 0]=bK (lf n):=by
 simp[ig,lf,bK]
theorem Zqt (n:Nat) (s:aj) (k:Nat) (hs:s.length<1000000) (hk:k<1000000) (st:St):
  Ok (λo=>∃s',o=(.val [.str (ju s k)],s')/\aD st s') (run Bd (n+1) 249 [.str s,.int .i64 (k:Int)] st):=by
 rw[Ze,h.acT];unfold P1 pB lH Ls;simp only[bP,av,aq];have hw:ar ((k:Int)-(s.length:Int))=(k:Int)-(s.length:Int):=Zc;have hd:(if (k:Int)-(s.length:Int)<0 then(0:Int)else(k:Int)-(s.length:Int))=((k-s.length:Nat):Int):=by
  split<;>omega
 simp only[hw,hd,bu];rw[Zb (by rw[aR,aR,bq,bq,bq];omega),Zy];rw[ZpX,Hj (by rw[Zq];simp[lf]),dj,dq (by rw[Zq];simp[lf]),<-lq,oh];rw[Zb (gf (by grind[lf])),Zd];exact .mk ⟨_,rfl,aD.new _ _⟩
theorem zW (n:Nat) (kind tag:Int) (body:aj) (hb:body.length<100000) (st:St) (hn:body.length+200<=n:=by omega):
  Ok (λo=>∃s',o=(.val [.str (iE kind tag body)],s')/\aD st s') (run Bd n 214 [.int .i64 kind,.int .i64 tag,.str body] st):=by
 obtain⟨n,rfl⟩: ∃k,n=k+2:=⟨n-2,by omega⟩;rw[Ze,h.acj];unfold Qy kW jJ rJ ix eM bD ZE Ls;simp only[bP,av,aq];have AT:([.int .u8 (IntKind.wrap .u8 kind),.int .u8 (IntKind.wrap .u8 tag),.int .u8 0,.int .u8 0]:ah)=bK [rb kind,rb tag,0,0]:=by
  rw[ZrZ,ZrZ];rfl
 rw[AT,Zy,Hj (by rw[Zq];show 0+4<=4;omega),dj,dq (by rw[Zq];show 4<=4;omega),<-lq,oh];refine Ok.mn (Zqt n body 56 (by omega) (by omega) _) ?_;rintro _ ⟨s1,rfl,aG⟩;refine⟨_,s1,rfl,aG,?_⟩;simp only[bP,aq];have hS:[rb kind,rb tag,0,0]++ju body 56=oU kind tag body:=rfl;have hSl:(oU kind tag body).length=4+(ju body 56).length:=by grind
 have ahn:(ju body 56).length<=body.length+56:=by
  simp[ju,lf]
 rw[Zb (gf (by show 4+_<=_;omega)),hS,Zy];refine Ok.call (ZlF (n+1) (some (s1.length,0)) (oU kind tag body) _ ⟨false,ZU (oU kind tag body),by simp,Nat.le_of_eq (by rw[ej,lq]),by rw[dj,lq,rq]⟩ (by omega) (by omega)) ?_;rintro _ rfl;refine⟨_,_,rfl,?_⟩;simp only[av,aq];have hc:=LJ (oU kind tag body);rw[yF];refine Ok.call (Z8 (n+1) _ 4 (by omega) _) ?_;rintro _ ⟨s2,rfl,aZ⟩;refine⟨_,_,rfl,?_⟩;simp only[bP,aq];rw[Zb (gf (by rw[Zx];omega)),Zd];exact .mk ⟨s2,rfl,(((aD.new _ _).trans aG).trans (aD.new _ _)).trans aZ⟩
theorem Py (n:Nat) (a:Int) (k:Nat) (hk:0<k) (iL:k<1000000000) (_ha: -9223372036854775808<=a/\a<=9223372036854775807) (st:St):run Bd (n+1) 179 [.int .i64 a,.int .i64 (k:Int)] st=some (.val [.int .i64 (a%(k:Int))],st):=by
 rw[Ze,h.abL];unfold QE gP Li;simp only[av,aq];have h0:(!((k:Int)==0))=true:=by rw[kR,dY];omega
 rw[Zb h0,Zb h0,Zd];have hb:=Int.tmod_lt_of_pos a (show(0:Int)<k by omega);have cV: -(k:Int)<a.tmod k:=by
  have:=Int.neg_tmod a k;have h3:=Int.tmod_lt_of_pos (-a) (show(0:Int)<k by omega);omega
 have hw:ar (a.tmod k+k)=a.tmod k+k:=Zc;rw[hw];have he:(a.tmod k+k).tmod k=a%k:=by
  rw[Int.tmod_eq_emod_of_nonneg (by omega),Int.add_emod_right];have e:a.tmod k=a+k*(-(a.tdiv k)):=by
   have:=Int.mul_tdiv_add_tmod a k;rw[Int.mul_neg];omega
  rw[e,Int.add_mul_emod_self_left]
 rw[he]
def iZ (l:ak):aj:=(l.map λk=>dF (eN k) 2).flatten
theorem sU (l:ak):(iZ l).length=2*l.length:=by
 unfold iZ;induction l with
 |nil=>rfl
 |cons k l ih=>rw[nZ,yh,bz,Zx,ih,cH];omega
theorem GP (l:ak) (h:i<l.length):iZ (l.take (i+1))=iZ (l.take i)++dF (eN l[i]) 2:=by
 unfold iZ;rw[kS h,fg,Gb];simp
def jg (k:Int):Bool:=decide (k>=2)&&decide (k<=3071)
theorem GD (n:Nat) (k:Int) (st:St):run Bd (n+1) 251 [.int .i64 k] st=some (.val [.bool (jg k)],st):=by
 rw[Ze,h.acV];unfold Pw cA az Lb jg;simp only[av,aq,Za];cases decide (k>=2)<;>rfl
theorem ZY {a b:Nat} (h:a<=b) (K:M β):aC (Nat.ble a b) K=K:=Zb (gf h) K
def NB (x:jo):aj:=dF (eN x.bH.key) 8++dF (eN x.bH.value) 8++dF (eN x.bH.slot) 4++dF (eN x.bH.gen) 4++iZ x.kids
def wq (x:jo):aj:=iE 1 x.kids.length (NB x)
theorem ZlK (n:Nat) (x:jo) (z:Nat) (p:ai) (st:St) (hz:z=1\/p=none) (hs:Sl st p (ints x.kids)) (hl:x.kids.length<1000) (hn:2400<=n:=by omega):
  Ok (λo=>∃s',o=(.val [.str (wq x)],s')/\aD st s') (run Bd n 250 [.agg (nR x z p)] st):=by
 obtain⟨n,rfl⟩: ∃k,n=k+2:=⟨n-2,by omega⟩;rw[Ze,h.acU];unfold Rf D6 jJ BR sR ix tY Zn ZE pC Ls eM nR eR;simp only[nr,gU];rw[cJ];simp only[av,Zg 1 z p _ hz,aq,Ei];refine Ok.mn (Z8 (n+1) _ 8 (sW _) st) ?_;rintro _ ⟨s1,rfl,aG⟩;refine⟨_,s1,rfl,aG,?_⟩;simp only[bP,aq];refine Ok.mn (Z8 (n+1) _ 8 (sW _) s1) ?_;rintro _ ⟨s2,rfl,aZ⟩;refine⟨_,s2,rfl,aZ,?_⟩;simp only[bP,aq];rw[ZY (by rw[Zx,Zx];omega)];refine Ok.mn (Z8 (n+1) _ 4 (sW _) s2) ?_;rintro _ ⟨s3,rfl,cq⟩;refine⟨_,s3,rfl,cq,?_⟩;simp only[bP,aq];rw[ZY (by rw[bz,Zx,Zx,Zx];omega)];refine Ok.xj (Z8 (n+1) _ 4 (sW _) s3) ?_;rintro _ ⟨s4,rfl,fC⟩;refine⟨_,s4,rfl,?_⟩;simp only[bP,aq];rw[ZY (by rw[bz,bz,Zx,Zx,Zx,Zx];omega),Za];have hP:=((aG.trans aZ).trans cq).trans fC;obtain⟨A,hA⟩: ∃A,dF (eN x.bH.key) 8++dF (eN x.bH.value) 8++dF (eN x.bH.slot) 4++dF (eN x.bH.gen) 4=A:=⟨_,rfl⟩;have xz:A.length=24:=by rw[<-hA];simp[Zx]
 rw[hA];refine Zj _ (λq y s=>∃i:Nat,y=[.str (A++iZ (x.kids.take i)),.int .i64 (i:Int)]/\i<=x.kids.length/\x.kids.length-i<=q/\aD st s) ?_ x.kids.length (n+1) _ _ ⟨0,by rw[Ge];show _=[DV.str (A++[]),_];rw[gG];rfl,cn _,by omega,hP⟩ (by omega);rintro q _ s ⟨i,rfl,hi,hq,gS⟩ rec aP;simp only[bP,av,aq];by_cases ax:i<x.kids.length
 .have dG:=hs.mono gS
  obtain⟨i1,o1,rfl⟩:=dG.cD (by simp[ints];omega);rw[aw (show(i:Int)<(x.kids.length:Int) by omega),ae,aX,Zb (Zi ax),bu,dG.dL (ZA ax)];simp only[aY];refine Ok.call (Z8 (n+1) _ 2 (sW _) s) ?_;rintro _ ⟨s5,rfl,ji⟩;refine⟨_,s5,rfl,?_⟩;simp only[bP,aq];rw[ZY (by rw[bz,sU,Zx,cz,xz];omega),Zc];refine aP (x.kids.length-(i+1)) _ _ (by omega) ⟨i+1,by rw[GP _ ax,fD];rfl,by omega,aL _,gS.trans ji⟩
 .rw[aB (show ¬(i:Int)<(x.kids.length:Int) by omega),af]
  rw[dq (by omega)];refine Ok.call (zW (n+1) 1 x.kids.length (A++iZ x.kids) (by rw[bz,sU];omega) s (by rw[bz,sU];omega)) ?_;rintro _ ⟨s5,rfl,ji⟩;refine⟨_,s5,rfl,?_⟩;simp only[bP,aq,Zd];refine .mk ⟨s5,?_,gS.trans ji⟩;unfold wq NB;rw[hA]
def wx (x:bA):Bool:= !(decide (x.gen<0)||decide (x.gen>4294967295))&&(bif x.live then decide (x.gen>0)&&jg x.block else(decide (x.block>=0)&&decide (x.block<=1792))&&(!(x.gen==0)||x.block==0))
theorem Zqk (n:Nat) (x:bA) (st:St):run Bd (n+2) 252 [.agg (ez x)] st=some (.val [.bool (wx x)],st):=by
 rw[Ze,h.acW];unfold Qa qo az bd Lb Li wx ez;rw[cJ];simp only[au,av,aq,Za];have e0:=GD n x.block st;cases decide (x.gen<0)with
 |true=>rfl
 |false=>
 cases decide (x.gen>4294967295)with
 |true=>rfl
 |false=>
 simp only[af,Bool.or_self,bp,de];cases x.live with
 |true=>
  simp only[ae];cases decide (x.gen>0)with
  |true=>
   simp only[ae];rw[Zk e0];simp only[au,aq,Zd,de]
  |false=>simp only[af,Zd,eG]
 |false=>
  simp only[af];cases decide (x.block>=0)with
  |false=>simp only[af,Zd,eG]
  |true=>
   simp only[ae,de];cases decide (x.block<=1792)with
   |false=>simp only[af,Zd,eG]
   |true=>
    simp only[ae,de];cases(x.gen==0)with
    |true=>simp only[bm,af,Zd,sK]
    |false=>simp only[bp,ae,Zd,zJ]
def nB:List bA->aj
 |[]=>[]
 |x::r=>dF (eN x.gen) 4++dF (eN x.block) 4++nB r
def jc:Nat->List bA->Nat
 |_,[]=>0
 |k,x::r=>(bif x.live then 2^k else 0)+jc (k+1) r
theorem Rw: ∀l:List bA,(nB l).length=8*l.length
 |[]=>rfl
 |x::r=>by rw[nB,bz,bz,Zx,Zx,Rw r,cH];omega
theorem Zog: ∀l m:List bA,nB (l++m)=nB l++nB m
 |[],m=>rfl
 |x::r,m=>by rw[nr,nB,nB,Zog r m,<-fD]
theorem ZpJ: ∀(k:Nat) (l m:List bA),jc k (l++m)=jc k l+jc (k+l.length) m
 |k,[],m=>by simp[jc]
 |k,x::r,m=>by rw[nr,jc,jc,ZpJ (k+1) r m,cH,show k+1+r.length=k+(r.length+1) by omega,tO]
theorem ZrA: ∀(k:Nat) (l:List bA),jc k l+2^k<=2^(k+l.length)
 |k,[]=>by simp[jc]
 |k,x::r=>by
  have:=ZrA (k+1) r;rw[jc,cH,show k+(r.length+1)=k+1+r.length by omega];have e:2^(k+1)=2*2^k:=by rw[vm];omega
  cases x.live with
  |true=>rw[ae];omega
  |false=>rw[af];omega
def wW (l:List bA):Option (aj):=bif l.all wx then some (iE 2 (jc 0 l:Nat) (nB l))else none
def yc:Option (aj)->ah
 |some s=>[.str s,.bool true]
 |none=>[.str [],.bool false]
theorem ZkV (n:Nat) (l:List bA) (hl:l.length=7) (st:St) (hn:400<=n:=by omega):
  Ok (λo=>∃s',o=(.val (yc (wW l)),s')/\aD st s') (run Bd n 219 [.agg (bR l)] st):=by
 obtain⟨n,rfl⟩: ∃k,n=k+3:=⟨n-3,by omega⟩;obtain⟨R,hR⟩: ∃R,wW l=R:=⟨_,rfl⟩;rw[hR];unfold wW at hR;rw[Ze,h.acp];unfold Qz pB ix gP bd oj jJ BR pC vq ZE yp Li eM;have cL:(bR l).length=21:=by rw[Zz,hl]
 rw[cJ,bF cL];simp only[aq];rw[bF cL,Za];refine Zj _ (λq y s=>∃i:Nat,y=[.str (nB (l.take i)),.int .i64 ((jc 0 (l.take i):Nat):Int),.int .i64 (i:Int)]/\i<=7/\7-i<=q/\aD st s/\(l.take i).all wx=true) ?_ 7 (n+2) _ _ ⟨0,rfl,cn _,by omega,.refl st,rfl⟩ (by omega);rintro q _ s ⟨i,rfl,hi,hq,gS,cS⟩ rec aP;simp only[bP,av,aq];by_cases ax:i<7
 .have sh:i<l.length:=by omega
  have fJ:l.take (i+1)=l.take i++[l[i]]:=kS sh;have lV:l[i]? =some l[i]:=bU sh;have AT:((bR l).drop (i*3)).take 3=ez l[i]:=K6 lV;rw[aw (show(i:Int)<7 by omega),ae,Zb (show aQ (i:Int) 7=true from Zi ax),bu,ZY (by omega),AT];have gB:l[i]∈l:=jG sh;generalize l[i]=x at fJ gB;rw[bF (cs:=ez x) (n:=3) rfl,Zk (Zqk n x s)];simp only[au,aq];cases hx:wx x with
  |false=>
   rw[bp,ae,Zd];have cx:l.all wx=false:=by
    rw[JJ];exact⟨x,gB,by rw[hx];decide⟩
   rw[cx,af]at hR;rw[<-hR];exact .mk ⟨s,rfl,gS⟩
  |true=>
   rw[bm,af];unfold ez;rw[hU (d:= .bool x.live) rfl];simp only[sP];have vX:=ZrA 0 (l.take i);rw[cz,kT (by omega),ej]at vX;have h7:2^i<=2^7:=l9 (by decide) (by omega);have adT:2^7=128:=by decide
   have ad4:(l.take (i+1)).all wx=true:=by rw[fJ,rj,cS];simp[hx]
   refine Ok.join λaI j8=>?_
   have hA:Ok (λo=>∃s',o=(.val (yc R),s')/\aD st s') (aI [.int .i64 ((jc 0 (l.take (i+1)):Nat):Int)] s):=by
    rw[j8];simp only[av,aq];rw[hU (d:= .int .i64 x.gen) rfl];simp only[aY,Ei];refine Ok.mn (Z8 (n+2) _ 4 (sW _) s) ?_;rintro _ ⟨s1,rfl,aG⟩;refine⟨_,s1,rfl,aG,?_⟩;simp only[bP,aq];have dG:=Rw (l.take i);rw[cz]at dG;rw[ZY (by rw[dG,Zx];omega),hU (d:= .int .i64 x.block) rfl];simp only[aY];refine Ok.xj (Z8 (n+2) _ 4 (sW _) s1) ?_;rintro _ ⟨s2,rfl,aZ⟩;refine⟨_,s2,rfl,?_⟩;simp only[bP,aq];rw[ZY (by rw[bz,dG,Zx,Zx];omega),Zc];refine aP (7-(i+1)) _ _ (by omega) ⟨i+1,?_,by omega,aL _,(gS.trans aG).trans aZ,ad4⟩;rw[fJ,Zog];simp[nB]
   have Ni:jc 0 (l.take (i+1))=jc 0 (l.take i)+(bif x.live then 2^i else 0):=by
    rw[fJ,ZpJ,cz,kT (by omega),ej];simp[jc]
   cases fj:x.live with
   |false=>
    rw[fj,af]at Ni;have afL:jc 0 (l.take i)=jc 0 (l.take (i+1)):=Ni.symm;rw[af,afL];exact hA
   |true=>
    rw[fj,ae]at Ni;rw[ae,Zb (aw (by omega)),kT (by omega)];have e1:ar (1*2^i)=((2^i:Nat):Int):=by
     rw[Int.one_mul,show((2:Int)^i)=((2^i:Nat):Int) by push_cast;rfl];exact Zc
    rw[e1,Zc];have e2:((jc 0 (l.take i):Nat):Int)+((2^i:Nat):Int)=((jc 0 (l.take (i+1)):Nat):Int):=by rw[Ni];omega
    rw[e2];exact hA
 .rw[aB (show ¬(i:Int)<7 by omega),af]
  rw[dq (by omega)]at cS⊢;rw[cS,ae]at hR;have dG:=Rw l;refine Ok.call (zW (n+2) 2 (jc 0 l:Nat) (nB l) (by omega) s) ?_;rintro _ ⟨s1,rfl,aG⟩;refine⟨_,s1,rfl,?_⟩;simp only[bP,aq,Zd];rw[<-hR];exact .mk ⟨s1,rfl,gS.trans aG⟩
def um (l:ak):Option (aj):=bif l.all λk=>k==0||jg k then some (iE 3 0 (iZ l))else none
theorem P7 (n:Nat) (l:ak) (hl:l.length=16) (st:St) (hn:400<=n:=by omega):
  Ok (λo=>∃s',o=(.val (yc (um l)),s')/\aD st s') (run Bd n 218 [.agg (ints l)] st):=by
 obtain⟨n,rfl⟩: ∃k,n=k+3:=⟨n-3,by omega⟩;obtain⟨R,hR⟩: ∃R,um l=R:=⟨_,rfl⟩;rw[hR];unfold um at hR;rw[Ze,h.aco];unfold QP sR ix tY az bd pC vq ZE eM Li Lb Ls;have cL:(ints l).length=16:=by simp[ints,hl]
 rw[cJ,bF cL];simp only[aq];rw[bF cL,Za];refine Zj _ (λq y s=>∃i:Nat,y=[.str (iZ (l.take i)),.int .i64 (i:Int)]/\i<=16/\16-i<=q/\aD st s/\((l.take i).all λk=>k==0||jg k)=true) ?_ 16 (n+2) _ _ ⟨0,rfl,cn _,by omega,.refl st,rfl⟩ (by omega);rintro q _ s ⟨i,rfl,hi,hq,gS,cS⟩ rec aP;simp only[bP,av,aq];by_cases ax:i<16
 .have sh:i<l.length:=by omega
  have fJ:l.take (i+1)=l.take i++[l[i]]:=kS sh;have FB:(ints l)[i*1]? =some (.int .i64 l[i]):=by rw[cP];exact ZA sh
  have gB:l[i]∈l:=jG sh;have Im:=GP l sh;have Vg:aQ (i:Int) 16=true:=Zi ax;rw[aw (show(i:Int)<16 by omega),ae];simp only[bu];rw[Zb Vg,hU FB];simp only[aY];generalize l[i]=x at fJ FB gB Im;refine Ok.join λaI j8=>?_
  have cx:(x==0||jg x)=false->Ok (λo=>∃s',o=(.val (yc R),s')/\aD st s') ((ay [.str (bs []),.bool false]:M ah) s):=λe=>by
   have cx:(l.all λk=>k==0||jg k)=false:=by
    rw[JJ];exact⟨x,gB,by rw[e];decide⟩
   rw[cx,af]at hR;rw[<-hR,Zd];exact .mk ⟨s,rfl,gS⟩
  have Nn:(x==0||jg x)=true->Ok (λo=>∃s',o=(.val (yc R),s')/\aD st s') (aI [.bool false] s):=λe=>by
   rw[j8];simp only[au,aq];rw[af,Zb Vg,hU FB];simp only[aY,Ei];refine Ok.call (Z8 (n+2) _ 2 (sW _) s) ?_;rintro _ ⟨s1,rfl,aG⟩;refine⟨_,s1,rfl,?_⟩;simp only[bP,aq];rw[ZY (by rw[sU,Zx,cz];omega),Zc];refine aP (16-(i+1)) _ _ (by omega) ⟨i+1,by rw[Im];rfl,by omega,aL _,gS.trans aG,?_⟩;rw[fJ,rj,cS];simpa using e
  cases h0:(x==0)with
  |true=>
   rw[bm,af];exact Nn (by rw[h0];rfl)
  |false=>
   rw[bp,ae,Zb Vg,hU FB];simp only[aY];rw[Zk (GD (n+1) x s)];simp only[au,aq];cases hb:jg x with
   |true=>exact Nn (by rw[hb,Bool.or_true])
   |false=>
    rw[j8];simp only[au,aq,bp,ae];exact cx (by rw[h0,hb];rfl)
 .rw[aB (show ¬(i:Int)<16 by omega),af]
  rw[dq (by omega)]at cS⊢;rw[cS,ae]at hR;have dG:=sU l;refine Ok.call (zW (n+2) 3 0 (iZ l) (by omega) s) ?_;rintro _ ⟨s1,rfl,aG⟩;refine⟨_,s1,rfl,?_⟩;simp only[bP,aq,Zd];rw[<-hR];exact .mk ⟨s1,rfl,gS.trans aG⟩
def x0 (x:ZC):aj:=iE 5 x.name.length (dF (eN x.mask) 4++iZ x.df++x.name)
theorem ZlP (n:Nat) (x:ZC) (hl:x.df.length=12) (hm:x.name.length<60000) (st:St) (hn:x.name.length+500<=n):
  Ok (λo=>∃s',o=(.val [.str (x0 x)],s')/\aD st s') (run Bd n 216 [.agg (ZW x)] st):=by
 obtain⟨n,rfl⟩: ∃k,n=k+3:=⟨n-3,by omega⟩;rw[Ze,h.acm];unfold QX ix sR tY ZE pC Ls eM ZW;have cL:(ints x.df).length=12:=by simp[ints,hl]
 rw[cJ];simp only[bP,av];rw[bF cL];simp only[aq];rw[bF (n:=14) (by simp[cL])];simp only[Ei];refine Ok.call (Z8 (n+2) _ 4 (sW _) st) ?_;rintro _ ⟨s0,rfl,y6⟩;refine⟨_,s0,rfl,?_⟩;simp only[bP,aq];rw[Za];have hA:(dF (eN x.mask) 4).length=4:=Zx _ _;unfold x0;generalize dF (eN x.mask) 4=A at hA;refine Zj _ (λq y s=>∃i:Nat,y=[.str (A++iZ (x.df.take i)),.int .i64 (i:Int)]/\i<=12/\12-i<=q/\aD st s) ?_ 12 (n+2) _ _ ⟨0,by rw[Ge];show _=[DV.str (A++[]),_];rw[gG];rfl,cn _,by omega,y6⟩ (by omega);rintro q _ s ⟨i,rfl,hi,hq,gS⟩ rec aP;simp only[bP,av,aq];by_cases ax:i<12
 .have sh:i<x.df.length:=by omega
  have FB:(ints x.df)[i*1]? =some (.int .i64 x.df[i]):=by rw[cP];exact ZA sh
  rw[aw (show(i:Int)<12 by omega),ae];simp only[bu];rw[Zb (show aQ (i:Int) 12=true from Zi ax),hU FB];simp only[aY];refine Ok.call (Z8 (n+2) _ 2 (sW _) s) ?_;rintro _ ⟨s1,rfl,aG⟩;refine⟨_,s1,rfl,?_⟩;simp only[bP,aq];rw[ZY (by rw[bz,hA,sU,Zx,cz];omega),Zc];exact aP (12-(i+1)) _ _ (by omega) ⟨i+1,by rw[GP _ sh,fD];rfl,by omega,aL _,gS.trans aG⟩
 .rw[aB (show ¬(i:Int)<12 by omega),af]
  rw[dq (by omega)];have dG:=sU x.df;rw[ZY (by rw[bz];omega)];refine Ok.call (zW (n+2) 5 x.name.length (A++iZ x.df++x.name) (by rw[bz,bz];omega) s (by rw[bz,bz];omega)) ?_;rintro _ ⟨s1,rfl,aG⟩;refine⟨_,s1,rfl,?_⟩;simp only[bP,aq,Zd];exact .mk ⟨s1,rfl,gS.trans aG⟩
def rV:ak->Nat->Bool
 |_l,0=>true
 |l,i+1=>rV l i&&(jg (l.getD i 0)&& !decide (l.getD i 0∈l.take i))
def xf (l:ak):Option (aj):=bif decide (1<=l.length)&&(decide (l.length<=16)&&rV l l.length)then some (iE 6 l.length (iZ l))else none
theorem ZrS {l:ak} : ∀ {i j:Nat},i<=j->rV l j=true->rV l i=true
 |i,0,h,e=>by
  have:i=0:=by omega
  subst this;rfl
 |i,j+1,h,e=>by
  by_cases pQ:i=j+1
  .subst pQ;exact e
  .unfold rV at e
   rw[aR]at e;exact ZrS (by omega) e.1
theorem Zll (n:Nat) (l:ak) (z:Nat) (p:ai) (st:St) (hz:z=1\/p=none) (hs:Sl st p (ints l)) (hl:l.length<1000:=by omega) (hn:2500<=n:=by omega):
  Ok (λo=>∃s',o=(.val (yc (xf l)),s')/\aD st s') (run Bd n 215 [.slice z p l.length] st):=by
 obtain⟨n,rfl⟩: ∃k,n=k+3:=⟨n-3,by omega⟩;obtain⟨R,hR⟩: ∃R,xf l=R:=⟨_,rfl⟩;rw[hR];unfold xf at hR;rw[Ze,h.ack];unfold Qv ck az sR ix tY Zn bd Q_ cI vq pC eM Li ZE Ls Lb;simp only[Zg 1 z p _ hz,aq];rw[Za];have kK: ∀s,aD st s->R=none->Ok (λo=>∃s',o=(.val (yc R),s')/\aD st s') ((ay [.str (bs []),.bool false]:M ah) s):=λs gS e=>by
  rw[e,Zd];exact .mk ⟨s,rfl,gS⟩
 by_cases h1:1<=l.length;rotate_left
 .rw[aw (show((l.length:Nat):Int)<1 by omega),ae]
  simp only[au,aq,ae];refine kK st (.refl st) ?_;rw[aB h1,eG,af]at hR;exact hR.symm
 by_cases sb:l.length<=16;rotate_left
 .rw[aB (show ¬((l.length:Nat):Int)<1 by omega),af,aw (show((l.length:Nat):Int)>16 by omega)]
  simp only[au,aq,ae];refine kK st (.refl st) ?_;rw[aB sb,eG,BG,af]at hR;exact hR.symm
 rw[aw h1,aw sb,de,de]at hR;rw[aB (show ¬((l.length:Nat):Int)<1 by omega),af,aB (show ¬((l.length:Nat):Int)>16 by omega)];simp only[au,aq];rw[af,Za];have Ys: ∀i,i<=l.length->rV l i=false->R=none:=λi hi e=>by
  cases hf:rV l l.length with
  |true=>rw[ZrS hi hf]at e;cases e
  |false=>rw[hf,af]at hR;exact hR.symm
 refine Zj _ (λq y s=>∃i:Nat,y=[.str (iZ (l.take i)),.int .i64 (i:Int)]/\i<=l.length/\l.length-i<=q/\aD st s/\rV l i=true) ?_ l.length (n+2) _ _ ⟨0,rfl,cn _,by omega,.refl st,rfl⟩ (by omega);rintro q _ s ⟨i,rfl,hi,hq,gS,cS⟩ rec aP;simp only[bP,av,aq];by_cases ax:i<l.length
 .have dG:=hs.mono gS
  obtain⟨i1,o1,rfl⟩:=dG.cD (by simp[ints];omega);have xE:l.getD i 0=l[i]:=by rw[dX,bU ax];rfl
  have Im:=GP l ax;have fk:rV l (i+1)=(jg l[i]&& !decide (l[i]∈l.take i)):=by
   show(rV l i&&_)=_;rw[cS,de,xE]
  have cZ:(ints l)[i]? =some (.int .i64 l[i]):=ZA ax;rw[aw (show(i:Int)<(l.length:Int) by omega),ae,Za,aX,Zb (Zi ax)];simp only[bu];rw[dG.dL cZ];simp only[aY];obtain⟨x,hx⟩: ∃x,l[i]=x:=⟨_,rfl⟩;rw[hx]at cZ Im fk⊢;rw[Zk (GD (n+1) x s)];simp only[au,aq];cases hb:jg x with
  |false=>
   rw[bp,ae];exact kK s gS (Ys (i+1) (by omega) (by rw[fk,hb];rfl))
  |true=>
   rw[bm,af,Za];refine Zj _ (λq y t=>∃k:Nat,y=[.int .i64 (k:Int)]/\k<=i/\i-k<=q/\t=s/\x∉l.take k) ?_ i (n+2) _ _ ⟨0,rfl,cn _,by omega,rfl,by simp⟩ (by omega);rintro q2 _ t ⟨k,rfl,hk,Dc,rfl,oO⟩ dA kh;simp only[av,aq];by_cases hlk:k<i
   .have iL:k<l.length:=by omega
    have uL:(ints l)[k]? =some (.int .i64 l[k]):=ZA iL;rw[aw (show(k:Int)<(i:Int) by omega),ae,aX,Zb (Zi iL)];simp only[bu];rw[dG.dL uL];simp only[aY];rw[aX,Zb (Zi ax)];rw[dG.dL cZ];simp only[aY];by_cases he:l[k]=x
    .rw[show(l[k]==x)=true by rw[he];exact rr _,ae]
     refine kK t gS (Ys (i+1) (by omega) ?_);have:x∈l.take i:=by
      rw[<-he];exact List.mem_take_iff_getElem.2 ⟨k,by omega,rfl⟩
     rw[fk,aw this,bm,BG]
    .rw[show(l[k]==x)=false from dY.2 he,af,Zc]
     refine kh (i-(k+1)) _ _ (by omega) ⟨k+1,rfl,by omega,aL _,rfl,?_⟩;rw[kS iL];intro hm;rcases fE.1 hm with hm|hm
     .exact oO hm
     .exact he (cj.1 hm).symm
   .rw[aB (show ¬(k:Int)<(i:Int) by omega),af]
    have:k=i:=by omega
    subst this;rw[aX,Zb (Zi ax),dG.dL cZ];simp only[aY,Ei];refine Ok.call (Z8 (n+2) _ 2 (sW _) t) ?_;rintro _ ⟨s1,rfl,aG⟩;refine⟨_,s1,rfl,?_⟩;simp only[bP,aq];rw[ZY (by rw[sU,Zx,cz];omega),Zc];exact aP (l.length-(k+1)) _ _ (by omega) ⟨k+1,by rw[Im];rfl,by omega,aL _,gS.trans aG,by rw[fk,hb,aB oO];rfl⟩
 .rw[aB (show ¬(i:Int)<(l.length:Int) by omega),af]
  have:i=l.length:=by omega
  subst this;rw[rq];rw[cS,ae]at hR;have dG:=sU l;refine Ok.call (zW (n+2) 6 l.length (iZ l) (by omega) s) ?_;rintro _ ⟨s1,rfl,aG⟩;refine⟨_,s1,rfl,?_⟩;simp only[bP,aq,Zd];rw[<-hR];exact .mk ⟨s1,rfl,gS.trans aG⟩
theorem PM (n a e:Nat) (ha:a<100000) (he:0<e) (uI:e<1000) (st:St) (hn:a+10<=n:=by omega):
  Ok (λo=>o=(.val [.int .i64 (((a+e-1)/e:Nat):Int)],st)) (run Bd n 220 [.int .i64 (a:Int),.int .i64 (e:Int)] st):=by
 obtain⟨n,rfl⟩: ∃k,n=k+2:=⟨n-2,by omega⟩;rw[Ze,h.acq];unfold P6 gP oj cI Li;simp only[av,aq,Za];have hm:(a+e-1)/e<=a:=by
  rcases yl a with h0|h0
  .subst h0
   rw[ej,Nat.div_eq_of_lt (by omega)];exact aL _
  .refine Nat.div_le_of_le_mul ?_
   have:1*(e-1)<=a*(e-1):=DN _ h0;have h2:e*a=a+a*(e-1):=by
    obtain⟨f,rfl⟩: ∃f,e=f+1:=⟨e-1,by omega⟩;rw[Nat.add_sub_cancel,vk,Nat.one_mul,BM f];omega
   omega
 have Ih: ∀k,k*e<a↔k<(a+e-1)/e:=λk=>by
  rw[Nat.lt_iff_add_one_le,Nat.lt_iff_add_one_le,Nat.le_div_iff_mul_le he,vk,Nat.one_mul];omega
 generalize (a+e-1)/e=m at hm Ih;refine Zj _ (λq y s=>∃k:Nat,y=[.int .i64 (k:Int)]/\k<=m/\m-k<=q/\s=st) ?_ m (n+1) _ _ ⟨0,rfl,cn _,by omega,rfl⟩ (by omega);rintro q _ s ⟨k,rfl,hk,hq,rfl⟩ rec aP;simp only[av,aq];have hke:k*e<=100000*1000:=Nat.mul_le_mul (by omega) (by omega);have hw:ar ((k:Int)*(e:Int))=((k*e:Nat):Int):=by
  rw[show((k:Int)*(e:Int))=((k*e:Nat):Int) by push_cast;rfl];exact Zc
 rw[hw];have:=Ih k;by_cases ax:k*e<a
 .rw[aw (show((k*e:Nat):Int)<(a:Int) by omega),ae,Zc]
  exact aP (m-(k+1)) _ _ (by have:=this.1 ax;omega) ⟨k+1,rfl,this.1 ax,aL _,rfl⟩
 .rw[aB (show ¬((k*e:Nat):Int)<(a:Int) by omega),af]
  have iL:k=m:=by
   have: ¬k<m:=λh=>ax (this.2 h)
   omega
  rw[iL];simp only[Zd];exact .mk rfl
theorem ZiR (n a:Nat) (s g:Int) (ha:a<100000) (st:St) (hn:a+20<=n:=by omega):
  Ok (λo=>o=(.val [.int .i64 (((a+383)/384:Nat):Int)],st)) (run Bd n 196 [.agg [.int .i64 (a:Int),.int .i64 s,.int .i64 g]] st):=by
 obtain⟨n,rfl⟩: ∃k,n=k+2:=⟨n-2,by omega⟩;rw[Ze,h.abZ];unfold O7 Ci cQ fV Li;rw[cJ];simp only[av,aq];refine Ok.call (PM (n+1) a 384 ha (by decide) (by decide) st) ?_;rintro _ rfl;refine⟨_,st,rfl,?_⟩;simp only[av,aq,Zd];exact .mk rfl
theorem ZiX (n a:Nat) (ha:a<100000) (st:St) (hn:a+20<=n:=by omega):
  Ok (λo=>o=(.val [.int .i64 (((a+6)/7:Nat):Int)],st)) (run Bd n 266 [.int .i64 (a:Int)] st):=by
 obtain⟨n,rfl⟩: ∃k,n=k+2:=⟨n-2,by omega⟩;rw[Ze,h.ac8];unfold Pb cA cQ fV Li;simp only[av,aq];refine Ok.call (PM (n+1) a 7 ha (by decide) (by decide) st) ?_;rintro _ rfl;refine⟨_,st,rfl,?_⟩;simp only[av,aq,Zd];exact .mk rfl
def oE (a:Nat):Nat:=if a=0 then 0 else((a+6)/7+15)/16+1
theorem ZqI (n a:Nat) (ha:a<100000) (st:St) (hn:a+40<=n):
  Ok (λo=>o=(.val [.int .i64 (oE a:Int)],st)) (run Bd n 268 [.int .i64 (a:Int)] st):=by
 obtain⟨n,rfl⟩: ∃k,n=k+2:=⟨n-2,by omega⟩;rw[Ze,h.ada];unfold P4 cA cQ Li fV oE;simp only[av,aq];by_cases h0:a=0
 .subst h0
  rw[bw rfl];exact .mk rfl
 .rw[aW h0,show((a:Int)==0)=false from dY.2 (by omega),af]
  refine Ok.call (ZiX (n+1) a ha st) ?_;rintro _ rfl;refine⟨_,st,rfl,?_⟩;simp only[av,aq];refine Ok.call (PM (n+1) ((a+6)/7) 16 (by omega) (by decide) (by decide) st) ?_;rintro _ rfl;refine⟨_,st,rfl,?_⟩;simp only[av,aq,Zd];refine .mk ?_;rw[Zc];rfl
theorem or8 {x:Nat} (hx:x<256) (hy:y<256):bits .or .u8 (x:Int) (y:Int)=((x|||y:Nat):Int):=by
 show IntKind.wrap .u8 ((BitVec.ofInt 8 (x:Int)|||BitVec.ofInt 8 (y:Int)).toNat:Int)=_;have e: ∀z:Nat,z<256->(BitVec.ofInt 8 (z:Int)).toNat=z:=λz hz=>by
  rw[JI];omega
 rw[BitVec.toNat_or,e x hx,e y hy];have h:x|||y<256:=JQ (n:=8) hx hy;show((x|||y:Nat):Int)%256=_;omega
def xc (b:aj) (k:Nat):aj:=b.set (k/8) (UInt8.ofNat ((b.getD (k/8) 0).toNat|||2^(k%8)))
theorem KI (b:aj) (k:Nat):(xc b k).length=b.length:=by unfold xc;rw[lD]
def inPlace (p:Nat) (x:Int):Bool:=decide (x>=((384*p:Nat):Int))&&decide (x<((384*p+384:Nat):Int))
def tg (p:Nat):aj->ak->aj
 |b,[]=>b
 |b,x::r=>tg p (bif inPlace p x then xc b (x-((384*p:Nat):Int)).toNat else b) r
def fQ (p:Nat) (l:ak):ZN:=⟨p,tg p (List.replicate 48 0) l⟩
theorem GV (p:Nat): ∀(l:ak) (b:aj),(tg p b l).length=b.length
 |[],_=>rfl
 |x::r,b=>by
  unfold tg;rw[GV p r];cases inPlace p x with
  |true=>exact KI b _
  |false=>rfl
theorem ZwD (b:aj) (k:Nat) (c:UInt8):bK (b.set k c)=(bK b).set k (.int .u8 c.toNat):=by
 unfold bK;rw[DJ]
theorem ZkZ (n p:Nat) (l:ak) (a:ai) (z:Nat) (st:St) (hz:z=1\/a=none) (hs:Sl st a (ints l)) (hp:p<1000) (hl:l.length<100000) (hx: ∀x∈l,0<=x/\x<1000000) (hn:l.length+10<=n):
  Ok (λo=>o=(.val [.agg (ZS (fQ p l))],st)) (run Bd n 192 [.int .i64 (p:Int),.slice z a l.length] st):=by
 obtain⟨n,rfl⟩: ∃k,n=k+2:=⟨n-2,by omega⟩;rw[Ze,h.abV];unfold QC ck cA Zn az lH Lb;simp only[av,Zg 1 z a _ hz,aq];rw[Za];have cG:ar (384*(p:Int))=((384*p:Nat):Int):=by
  rw[show(384*(p:Int))=((384*p:Nat):Int) by omega];exact Zc
 have fP:ar (((384*p:Nat):Int)+384)=((384*p+384:Nat):Int):=by
  rw[Zc];omega
 simp only[cG,fP];obtain⟨G,hG⟩: ∃G,tg p (List.replicate 48 0) l=G:=⟨_,rfl⟩;have hR:fQ p l=⟨p,G⟩:=by unfold fQ;rw[hG]
 rw[hR];refine Zj _ (λq y s=>∃(i:Nat) (b:aj),y=[.agg (.int .i64 (p:Int)::bK b),.int .i64 (i:Int)]/\i<=l.length/\l.length-i<=q/\s=st/\b.length=48/\tg p b (l.drop i)=G) ?_ l.length (n+1) _ _ ⟨0,List.replicate 48 0,rfl,cn _,by omega,rfl,vh,hG⟩ (by omega);rintro q _ s ⟨i,b,rfl,hi,hq,rfl,hb,aN⟩ rec aP;have iM:(bK b).length=48:=by rw[Zq,hb]
 rw[cJ];simp only[av,aq];rw[bF iM];by_cases ax:i<l.length
 .obtain⟨i1,o1,rfl⟩:=hs.cD (by simp[ints];omega)
  have cZ:(ints l)[i]? =some (.int .i64 l[i]):=ZA ax;have fH:l.drop i=l[i]::l.drop (i+1):=iI ax;have gB:l[i]∈l:=jG ax;rw[fH]at aN;obtain⟨x,Nl⟩: ∃x,l[i]=x:=⟨_,rfl⟩;rw[Nl]at cZ aN gB;obtain⟨Nk,zj⟩:=hx x gB;unfold tg at aN;rw[aw (show(i:Int)<(l.length:Int) by omega),ae,aX,Zb (Zi ax)];simp only[bu];rw[hs.dL cZ];simp only[aY];have jO:ar ((i:Int)+1)=((i+1:Nat):Int):=Zc;rw[jO];refine Ok.join λaI j8=>?_
  have hA: ∀c,inPlace p x=c->Ok (λo=>o=(.val [.agg (ZS ⟨p,G⟩)],s)) (aI [.bool c] s):=by
   intro c hc;rw[j8];simp only[au,aq];rw[hc]at aN;rw[Za];cases c with
   |false=>
    rw[af]at aN;rw[af];show Ok _ (bn [.agg (.int .i64 (p:Int)::bK b)] _ s);rw[cJ];simp only[av];rw[bF iM];simp only[aq];exact aP (l.length-(i+1)) _ _ (by omega) ⟨i+1,b,rfl,by omega,aL _,rfl,hb,aN⟩
   |true=>
    rw[ae]at aN;unfold inPlace at hc;rw[aR,bq,bq]at hc;obtain⟨k,hk⟩: ∃k:Nat,x-((384*p:Nat):Int)=(k:Int):=⟨(x-((384*p:Nat):Int)).toNat,by omega⟩;rw[hk,bu]at aN;have iL:k<384:=by omega
    have qT:ar (x-((384*p:Nat):Int))=(k:Int):=by rw[hk];exact Zc
    have hdv:ar ((k:Int).tdiv 8)=((k/8:Nat):Int):=by
     rw[show(k:Int).tdiv 8=((k/8:Nat):Int)from rfl];exact Zc
    have kI:(k:Int).tmod 8=((k%8:Nat):Int):=rfl;rw[ae,aX,Zb (Zi ax),hs.dL cZ];simp only[aY,qT,hdv,kI,bu];have hk8:k/8<48:=by omega
    have yU:b[k/8]? =some (b.getD (k/8) 0):=by
     rw[dX,bU (by omega)];rfl
    have MA:=(b.getD (k/8) 0).toNat_lt;rw[Zb (show aQ ((k/8:Nat):Int) 48=true from Zi hk8),hU (i:=k/8*1) (by rw[cP];exact SS yU)];simp only[aY];rw[Zb (aw (by omega)),Zb (show aQ ((k/8:Nat):Int) 48=true from Zi hk8),ZY (by omega)];have h28:2^(k%8)<=2^7:=l9 (by decide) (by omega);have adT:2^7=128:=by decide
    have IP:IntKind.wrap .u8 (1*2^(min (k%8) 8))=((2^(k%8):Nat):Int):=by
     rw[kT (by omega),Int.one_mul,show((2:Int)^(k%8))=((2^(k%8):Nat):Int) by push_cast;rfl];generalize 2^(k%8)=w at h28;show((w:Nat):Int)%256=_;omega
    rw[IP,or8 MA (by omega)];have hor:(b.getD (k/8) 0).toNat|||2^(k%8)<256:=JQ (n:=8) MA (by omega);have db:cw (bK b) (k/8*1) [.int .u8 (((b.getD (k/8) 0).toNat|||2^(k%8):Nat):Int)]=bK (xc b k):=by
     rw[cP,Cq _ _ _ (by omega)];unfold xc;rw[ZwD];congr 2;show _=(((((b.getD (k/8) 0).toNat|||2^(k%8))%256:Nat)):Int);omega
    rw[db];show Ok _ (bn [.agg (.int .i64 (p:Int)::bK (xc b k))] _ s);rw[cJ];simp only[av];have FE:(bK (xc b k)).length=48:=by rw[Zq,KI,hb]
    rw[bF FE];simp only[aq];exact aP (l.length-(i+1)) _ _ (by omega) ⟨i+1,xc b k,rfl,by omega,aL _,rfl,by rw[KI,hb],aN⟩
  cases tB:decide (x>=((384*p:Nat):Int))with
  |false=>
   rw[af];exact hA false (by unfold inPlace;rw[tB,eG])
  |true=>
   rw[ae,aX,Zb (Zi ax),hs.dL cZ];simp only[aY];exact hA _ (by unfold inPlace;rw[tB,de])
 .rw[aB (show ¬(i:Int)<(l.length:Int) by omega),af]
  rw[kz (by omega)]at aN;rw[cJ];simp only[av];rw[bF iM];simp only[aq];rw[bF (by simp[iM]),Zd];refine .mk ?_;rw[<-aN];rfl
def ta (x:ZN):aj:=iE 4 x.no x.dH
theorem Zlv (n:Nat) (x:ZN) (hl:x.dH.length=48) (st:St) (hn:400<=n:=by omega):
  Ok (λo=>∃s',o=(.val [.str (ta x)],s')/\aD st s') (run Bd n 193 [.agg (ZS x)] st):=by
 obtain⟨n,rfl⟩: ∃k,n=k+2:=⟨n-2,by omega⟩;rw[Ze,h.abW];unfold Rg Zm ix pC Ls ZS;have iM:(bK x.dH).length=48:=by rw[Zq,hl]
 rw[cJ];simp only[av];rw[bF iM];simp only[aq];rw[bF (n:=49) (by simp[iM]),Zy];rw[Zo (i:=st.length) (f:=false) (all:= .int .i64 x.no::bK x.dH) (d:= .int .i64 x.no) (by simp) rfl];simp only[aY];have cS:(DV.int .i64 x.no::bK x.dH).length=49:=by simp[iM]
 rw[Hj (by rw[cS];omega),Hj (by rw[cS];omega)];have Fm:(List.drop 1 (DV.int .i64 x.no::bK x.dH)).take 48=ZU x.dH:=by
  rw[List.drop_succ_cons,dj,dq (by omega),lq]
 rw[Fm,oh];refine Ok.call (zW (n+1) 4 x.no x.dH (by omega) _) ?_;rintro _ ⟨s1,rfl,aG⟩;refine⟨_,s1,rfl,?_⟩;simp only[bP,aq,Zd];exact .mk ⟨s1,rfl,(aD.new _ _).trans aG⟩
structure qf (x:eC):Prop where
 s0:1<=x.seq
 s1:x.seq<=4611686018427387904
 g:oG x.blocks x.cO x.g=true
 u0:0<=x.used
 u1:x.used<=x.cO
 f0:0<=x.free
 f1:x.free<=x.used
 t0:x.used=0->x.cc=0
 t1:0<x.used->nh x x.cc=true
 d:x.dir≠0->nh x x.dir=true
 len:((x.aO.length:Nat):Int)=yy x.blocks x.cO x.g
 ch: ∀i,i<x.aO.length->nh x (x.aO.getD i 0)=true/\x.aO.getD i 0∉x.aO.take i
theorem Zr4 (x:eC):qh x=true↔ ∀i,i<x.aO.length->nh x (x.aO.getD i 0)=true/\x.aO.getD i 0∉x.aO.take i:=by
 simp[qh]
theorem zZ (x:eC):Z6 x=true↔qf x:=by
 unfold Z6;rw[aR,aR,Zr4,kR,kR];simp only[wF,ry,Bool.not_eq_false'];constructor
 .rintro⟨⟨a1,a2,a3,a4,a5,a6,a7⟩,⟨b1,b2,b3,b4⟩,c⟩
  refine⟨by omega,by omega,a3,by omega,by omega,by omega,by omega,λh=>?_,λh=>?_,λh=>?_,?_,c⟩
  .rw[h]at b1
   simpa using b1
  .rw[aw h,ae]at b2
   simpa using b2
  .rw[show(x.dir==0)=false from dY.2 h,bp,ae]at b3
   simpa using b3
  .simpa using b4
 .intro h
  refine⟨⟨by have:=h.s0;omega,by have:=h.s1;omega,h.g,by have:=h.u0;omega,by have:=h.u1;omega,by have:=h.f0;omega,by have:=h.f1;omega⟩,⟨?_,?_,?_,?_⟩,h.ch⟩
  .by_cases hu:x.used=0
   .rw[h.t0 hu];cases(x.used==0)<;>rfl
   grind
  .by_cases hu:0<x.used
   .rw[h.t1 hu];cases decide (x.used>0)<;>rfl
   grind
  .by_cases hu:x.dir=0
   .rw[hu];rfl
   .rw[h.d hu];cases(!(x.dir==0))<;>rfl
  simp[h.len]
theorem SC (x:eC) (k:Int):nh x k=true↔2<=k/\k<x.blocks:=by
 simp[nh]
theorem Zoj {b s g:Int} (h:oG b s g=true):yy b s g=(((b.toNat+383)/384:Nat):Int):=by
 obtain⟨g1,g2,_⟩:=Z3 h;unfold yy qa;rw[h,ae];obtain⟨m,rfl⟩: ∃m:Nat,b=m:=⟨b.toNat,by omega⟩;rw[bu,Zc (x:=(m:Int)+384),Zc (x:=(m:Int)+384-1),show((m:Int)+384-1)=((m+383:Nat):Int) by omega,show(((m+383:Nat):Int).tdiv 384)=(((m+383)/384:Nat):Int)from rfl];exact Zc
theorem Zwx {Q:Out ah×St->Prop} {Kn:ah->M ah} (n:Nat) (b:Int) (l:ak) (p:ai) (s:St) (hs:Sl s p (ints l)) (hl:l.length<5000) (hn:l.length<n)
  (cx: ∀k∈l,¬(2<=k/\k<b)->Ok Q ((ay [.bool false]:M ah) s)) (Nn:(∀k∈l,2<=k/\k<b)->Ok Q (Kn [] s)):
  Ok Q (cY (λaV st=>
       aF .i64 st λi st=>
      aJ st<|
      bif decide (i<(l.length:Int))then
       bJ p λi1 o=>
      aC (aQ i l.length)<|
      bG i1 (i.toNat*1+o) λd=>
      cT .i64 d λx=>
      cK (λst=>gW st λb7 st=>aJ st<|
       bif b7 then
       ay [.bool false]
      else
       aV [.int .i64 (ar (i+1))]) λkq=>
      bif decide (x<2)then
       kq [.bool true]
      else
       bJ p λi2 o1=>
      aC (aQ i l.length)<|
      bG i2 (i.toNat*1+o1) λd1=>
      cT .i64 d1 λx1=>
      kq [.bool (decide (x1>=b))]
      else
       Kn []) n [.int .i64 0] s):=by
 refine Zj _ (λq y t=>∃i:Nat,y=[.int .i64 (i:Int)]/\i<=l.length/\l.length-i<=q/\t=s/\∀k∈l.take i,2<=k/\k<b) ?_ l.length n _ _ (by grind) hn;rintro q _ t ⟨i,rfl,hi,hq,rfl,cS⟩ rec aP;simp only[av,aq];by_cases ax:i<l.length
 .obtain⟨i1,o1,rfl⟩:=hs.cD (by simp[ints];omega)
  have cZ:(ints l)[i]? =some (.int .i64 l[i]):=ZA ax;have fJ:l.take (i+1)=l.take i++[l[i]]:=kS ax;have gB:l[i]∈l:=jG ax;rw[aw (show(i:Int)<(l.length:Int) by omega),ae,aX,Zb (Zi ax)];simp only[bu];rw[hs.dL cZ];simp only[aY];generalize l[i]=x at cZ fJ gB;rw[Za];by_cases h2:x<2
  .rw[aw h2,ae]
   simp only[au,aq,ae];grind
  .rw[aB h2,af,aX,Zb (Zi ax),hs.dL cZ]
   simp only[aY,au,aq];by_cases h3:x>=b
   .rw[aw h3,ae]
    grind
   .rw[aB h3,af,Zc]
    refine aP (l.length-(i+1)) _ _ (by omega) ⟨i+1,rfl,by omega,aL _,rfl,λk hk=>?_⟩;rw[fJ]at hk;grind
 .rw[aB (show ¬(i:Int)<(l.length:Int) by omega),af]
  rw[dq (by omega)]at cS;exact Nn cS
theorem O9 (n:Nat) (x:eC) (p:ai) (st:St) (hs:Sl st p (ints x.aO)) (hl:x.aO.length<1000) (hn:5000<=n:=by omega):
  Ok (λo=>∃s',o=(.val [.bool (Z6 x)],s')/\aD st s') (run Bd n 195 [.agg (dS x p)] st):=by
 obtain⟨n,rfl⟩: ∃k,n=k+2:=⟨n-2,by omega⟩;rw[Ze,h.abY];unfold Ql ZZ az gk Q_ cI Zn lJ mK bd Lb Li eW bD ur dS;rw[cJ];simp only[av,bc,aq];have hF: ∀s,aD st s->¬qf x->Ok (λo=>∃s',o=(.val [.bool (Z6 x)],s')/\aD st s') ((ay [.bool false]:M ah) s):=λs hp e=>by
  have:Z6 x=false:=by
   cases hs:Z6 x with
   |false=>rfl
   |true=>exact absurd ((zZ x).1 hs) e
  rw[this,Zd];exact .mk ⟨s,rfl,hp⟩
 rw[Za];by_cases h1:x.seq<1
 .rw[aw h1,ae]
  simp only[au,aq];rw[Za,ae];simp only[au,aq];rw[ae];exact hF st (.refl st) λk=>by have:=k.s0;omega
 rw[aB h1,af];simp only[au,aq];rw[Za];by_cases h2:x.seq>4611686018427387904
 .rw[aw h2,ae]
  simp only[au,aq];rw[ae];exact hF st (.refl st) λk=>by have:=k.s1;omega
 rw[aB h2,af,Zk (ZjH n x.blocks x.cO x.g st)];simp only[au,aq];cases hg:oG x.blocks x.cO x.g with
 |false=>
  rw[bp,ae];exact hF st (.refl st) λk=>by have:=k.g;rw[hg]at this;cases this
 |true=>
 obtain⟨g1,g2,g3,g4,g5,g6⟩:=Z3 hg;rw[bm,af,Za];by_cases h3:x.used<0
 .rw[aw h3,ae]
  simp only[au,aq];rw[Za,ae];simp only[au,aq];rw[Za,ae];simp only[au,aq];rw[Za,ae];simp only[au,aq];rw[ae];exact hF st (.refl st) λk=>by have:=k.u0;omega
 rw[aB h3,af];by_cases h4:x.used>x.cO
 .rw[aw h4]
  simp only[au,aq];rw[Za,ae];simp only[au,aq];rw[Za,ae];simp only[au,aq];rw[Za,ae];simp only[au,aq];rw[ae];exact hF st (.refl st) λk=>by have:=k.u1;omega
 rw[aB h4];simp only[au,aq];rw[Za,af];by_cases h5:x.free<0
 .rw[aw h5]
  simp only[au,aq];rw[Za,ae];simp only[au,aq];rw[Za,ae];simp only[au,aq];rw[ae];exact hF st (.refl st) λk=>by have:=k.f0;omega
 rw[aB h5];simp only[au,aq];rw[Za,af];by_cases h6:x.free>x.used
 .rw[aw h6]
  simp only[au,aq];rw[Za,ae];simp only[au,aq];rw[ae];exact hF st (.refl st) λk=>by have:=k.f1;omega
 rw[aB h6];simp only[au,aq];rw[Za,af];obtain⟨m,hm⟩: ∃m:Nat,x.blocks=m:=⟨x.blocks.toNat,by omega⟩;have uH:=Zoj hg;rw[hm,bu]at uH;rw[hm];refine Ok.xj (ZiR (n+1) m x.cO x.g (by omega) st) ?_;rintro _ rfl;refine⟨_,st,rfl,?_⟩;simp only[av,au,aq];by_cases h7:((x.aO.length:Nat):Int)=(((m+383)/384:Nat):Int);rotate_left
 .rw[show(((x.aO.length:Nat):Int)==(((m+383)/384:Nat):Int))=false from dY.2 h7,bp,ae]
  exact hF st (.refl st) λk=>by have:=k.len;rw[hm,uH]at this;exact h7 this
 rw[show(((x.aO.length:Nat):Int)==(((m+383)/384:Nat):Int))=true by rw[h7];simp,bm,af];have fk: ∀k,nh x k=true↔2<=k/\k<(m:Int):=λk=>by rw[SC,hm]
 refine Ok.join λfW Vk=>?_
 have A7: ∀(q:ai) (z:Nat) (l:ak) (s:St),ba st s q (ints l)->(z=1\/q=none)->l.length<=1->(x.used=0->x.cc=0)->(l=if x.used=0 then[]else[x.cc])->Ok (λo=>∃s',o=(.val [.bool (Z6 x)],s')/\aD st s') (fW [.slice z q l.length] s):=by
  intro q z l s ho hz oP FP hle;rw[Vk];simp only[Zg 1 z q _ hz,aq];refine Ok.join λgM Vl=>?_
  have A8: ∀(q:ai) (l:ak) (s:St),ba st s q (ints l)->l.length<=2->(l=(if x.used=0 then[]else[x.cc])++(if x.dir=0 then[]else[x.dir]))->Ok (λo=>∃s',o=(.val [.bool (Z6 x)],s')/\aD st s') (gM [.slice 1 q l.length] s):=by
   intro q l s ho mW hle;rw[Vl];simp only[bc,aq];refine Ok.join λgN ML=>?_
   have aef: ∀i k,i<x.aO.length->k<i->x.aO[k]? =x.aO[i]? ->¬qf x:=λi k hi hk e hS=>by
    have:=(hS.ch i hi).2;rw[dX,bU hi]at this;refine this (List.mem_take_iff_getElem.2 ⟨k,by omega,?_⟩);rw[bU (by omega),bU hi]at e;exact DQ e
   refine Zj _ (λr y t=>∃(i z:Nat) (q:ai),y=[.slice z q (l++x.aO.take i).length,.int .i64 (i:Int)]/\(z=1\/q=none)/\i<=x.aO.length/\x.aO.length-i<=r/\ba st t q (ints (l++x.aO.take i))/\∀j,j<i->x.aO.getD j 0∉x.aO.take j) ?_ x.aO.length (n+1) _ _ ⟨0,1,q,by simp,.inl rfl,cn _,by omega,by simpa using ho,by omega⟩ (by omega);rintro r _ t ⟨i,z,q,rfl,hz,hi,hr,ho,MF⟩ rec aP;simp only[av,Zg 1 z q _ hz,aq];have ca:=hs.mono ho.1;by_cases ax:i<x.aO.length
   .obtain⟨i1,o1,rfl⟩:=hs.cD (by simp[ints];omega)
    have cZ:(ints x.aO)[i]? =some (.int .i64 x.aO[i]):=ZA ax;have fJ:x.aO.take (i+1)=x.aO.take i++[x.aO[i]]:=kS ax;rw[aw (by omega),ae,Za,aX,Zb (Zi ax)];simp only[bu];rw[ca.dL cZ];simp only[aY];have gZ:(l++x.aO.take i).length<=2000:=by rw[bz,cz];omega
    obtain⟨q2,t2,c8,qM,he⟩:=ho.BD (β:=ah) (sz:=1) (n:=(l++x.aO.take i).length) (lim:=8796093022208) [.int .i64 x.aO[i]] (wI 0) (by simp[ints]) rfl (by omega);refine Eq.mpr (congrArg (Ok _) (he _)) ?_;rw[Za];have Df:=hs.mono c8.1;refine Zj _ (λq y u=>∃k:Nat,y=[.int .i64 (k:Int)]/\k<=i/\i-k<=q/\u=t2/\x.aO[i]∉x.aO.take k) ?_ i (n+1) _ _ ⟨0,rfl,cn _,by omega,rfl,by simp⟩ (by omega);rintro r2 _ u ⟨k,rfl,hk,jM,rfl,oO⟩ dA kh;simp only[av,aq];by_cases hlk:k<i
    .have iL:k<x.aO.length:=by omega
     have uL:(ints x.aO)[k]? =some (.int .i64 x.aO[k]):=ZA iL;rw[aw (by omega),ae,aX,Zb (Zi iL)];simp only[bu];rw[Df.dL uL];simp only[aY];rw[aX,Zb (Zi ax),Df.dL cZ];simp only[aY];by_cases he:x.aO[k]=x.aO[i]
     .rw[show(x.aO[k]==x.aO[i])=true by rw[he];exact rr _,ae]
      exact hF u c8.1 (aef i k ax hlk (by rw[bU iL,bU ax,he]))
     .rw[show(x.aO[k]==x.aO[i])=false from dY.2 he,af,Zc]
      refine kh (i-(k+1)) _ _ (by omega) ⟨k+1,rfl,by omega,aL _,rfl,?_⟩;rw[kS iL];intro kJ;rcases fE.1 kJ with kJ|kJ
      .exact oO kJ
      .exact he (cj.1 kJ).symm
    .rw[aB (by omega),af]
     have:k=i:=by omega
     subst this;simp only[bc,aq];rw[Zc];refine aP (x.aO.length-(k+1)) _ _ (by omega) ⟨k+1,1,q2,?_,.inl rfl,by omega,aL _,?_,λj hj=>?_⟩
     .rw[fJ,<-fD,bz (as:=l++x.aO.take k)];rfl
     .rw[fJ,<-fD]
      unfold ints at c8⊢;rw[fg (l₁:=l++x.aO.take k)];exact c8
     .by_cases uN:j=k
      .subst uN
       rw[dX,bU ax];exact oO
      .exact MF j (by omega)
   .rw[aB (by omega),af]
    have:i=x.aO.length:=by omega
    subst this;rw[rq]at ho⊢;rw[ML];simp only[bc,aq];refine Ok.join λjP Vi=>?_
    refine Zwx (Kn:=jP) (n+1) m (l++x.aO) q t ho.sl (by rw[bz];omega) (by rw[bz];omega) ?_ ?_
    .intro k hk Fj
     refine hF t ho.1 λhS=>Fj ?_
     rw[<-fk];rcases fE.1 hk with hk|hk
     .rw[hle]at hk
      rcases fE.1 hk with hk|hk
      .by_cases hu:x.used=0
       .rw[bw hu]at hk;cases hk
       .rw[aW hu]at hk;rw[cj.1 hk];exact hS.t1 (by omega)
      .by_cases hu:x.dir=0
       .rw[bw hu]at hk;cases hk
       .rw[aW hu]at hk;rw[cj.1 hk];exact hS.d hu
     .obtain⟨i,hi,rfl⟩:=List.mem_iff_getElem.1 hk
      have:=(hS.ch i hi).1;rw[dX,bU hi]at this;exact this
    .intro cS
     have:Z6 x=true:=by
      refine(zZ x).2 ⟨by omega,by omega,hg,by omega,by omega,by omega,by omega,FP,λhu=>?_,λhu=>?_,by rw[hm,uH];exact h7,λi hi=>⟨?_,MF i hi⟩⟩
      .rw[fk]
       exact cS _ (fE.2 (.inl (by rw[hle,aW (by omega)];simp)))
      .rw[fk]
       exact cS _ (fE.2 (.inl (by rw[hle,aW hu];simp)))
      .rw[fk,dX,bU hi]
       exact cS _ (fE.2 (.inr (jG hi)))
     rw[Vi];simp only[aq];rw[this,Zd];exact .mk ⟨t,rfl,ho.1⟩
  by_cases CT:x.dir=0
  .rw[show(!(x.dir==0))=false by rw[CT];rfl,af]
   grind
  .rw[show(!(x.dir==0))=true by rw[kR];grind,ae]
   obtain⟨q2,t2,c8,qM,he⟩:=ho.BD (β:=ah) (sz:=1) (n:=l.length) (lim:=8796093022208) [.int .i64 x.dir] (wI 0) (by simp[ints]) rfl (by omega);refine Eq.mpr (congrArg (Ok _) (he _)) ?_;have:=A8 q2 (l++[x.dir]) t2 (by unfold ints at c8⊢;rw[fg];exact c8) (by simp;omega) (by rw[aW CT,<-hle]);rw[bz]at this;exact this
 by_cases vY:x.used=0
 .rw[show(x.used==0)=true by rw[vY];rfl,ae]
  by_cases hfn:x.cc=0
  .rw[show(!(x.cc==0))=false by rw[hfn];rfl,af]
   exact A7 none 0 [] st (ba.nil (.refl st)) (.inr rfl) (by simp) (λ_=>hfn) (by rw[bw vY])
  .rw[show(!(x.cc==0))=true by rw[kR];grind,ae]
   exact hF st (.refl st) λk=>hfn (k.t0 vY)
 .rw[show(x.used==0)=false from dY.2 vY,af]
  obtain⟨q2,t2,c8,qM,he⟩:=(ba.nil (.refl st)).BD (β:=ah) (sz:=1) (n:=0) (lim:=8796093022208) [.int .i64 x.cc] (wI 0) rfl rfl (by omega);refine Eq.mpr (congrArg (Ok _) (he _)) ?_;exact A7 q2 1 [x.cc] t2 c8 (.inl rfl) (by simp) (λe=>absurd e vY) (by rw[aW vY])
theorem Zyv (k m:Nat) (hk:k<64) (h:2^k*(2*m+1)<18446744073709551616):bits .and .u64 ((2^k*(2*m+1):Nat):Int) (IntKind.wrap .u64 (0-((2^k*(2*m+1):Nat):Int)))=((2^k:Nat):Int):=by
 have hp:0<2^k*(2*m+1):=Nat.mul_pos (BO k) (by omega);have pK:(2:Nat)^64=18446744073709551616:=by decide
 have hn:=Zx2 k m 64 hk (by omega);generalize 2^k*(2*m+1)=w at h hp hn⊢;have e:IntKind.wrap .u64 (0-(w:Int))=((2^64-w:Nat):Int):=by
  show(0-(w:Int))%18446744073709551616=_;omega
 rw[e,ZvI h,hn]
def F0 (k:Nat):Nat:=(2^k*285870213051353865%18446744073709551616)/288230376151711744
def Xa (d:Option DV) (k:Nat):Bool:=match d with
 |some (.int .u8 n)=>n==(k:Int)
 |_=>false
theorem ZxV {d:Option DV} (h:Xa d k=true):d=some (.int .u8 (k:Int)):=by
 unfold Xa at h;split at h
 .rw[kU.1 h]
 .cases h
theorem ZvZ: ∀k,k<64->F0 k<64/\Xa (NS[F0 k]?) k=true:=by decide+kernel
theorem Zyw (k:Nat) (h:k<64):F0 k<64/\NS[F0 k]? =some (.int .u8 (k:Int)):=⟨(ZvZ k h).1,ZxV (ZvZ k h).2⟩
theorem Zwo (x c:Nat):(IntKind.wrap .u64 ((x:Int)*((c:Nat):Int))).fdiv (2^58)=((x*c%18446744073709551616/288230376151711744:Nat):Int):=by
 have e1:((x:Int)*((c:Nat):Int))=((x*c:Nat):Int):=by push_cast;rfl
 have e2:(2:Int)^58=((288230376151711744:Nat):Int):=by decide
 rw[e1,Zxe,e2,EA]
theorem aaw:Oi Bd:=by
 intro n k m st ht hk hw;rw[Ze,h.e86];have hand:=Zyv k m hk hw;have hp:0<2^k*(2*m+1):=Nat.mul_pos (BO k) (by omega);generalize 2^k*(2*m+1)=w at hand hp hw;obtain⟨h1,h2⟩:=Zyw k hk;have IP:(IntKind.wrap .u64 (((2^k:Nat):Int)*285870213051353865)).fdiv (2^58)=((F0 k:Nat):Int):=Zwo (2^k) 285870213051353865;unfold Gs Ua;simp only[av,aq];rw[hand,IP,show((w:Int)==0)=false from dY.2 (by omega),af,Zb (show aQ ((F0 k:Nat):Int) 64=true from Zi h1),bu,cP,fT];rw[Zo (i:=2) (f:=true) (all:=NS) (d:= .int .u8 (k:Int)) (ht 2 _ rfl) h2];simp only[aY,Zd];rw[Zc]
end Go.Gv.F
