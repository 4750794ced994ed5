/- States alike: the program's own comparison. -/
import Derived.Test.YtegglibipjjblaaGreatDoorGvBMk
import Derived.Test.YtegglibipjjblaaGreatDoorGvZMc
set_option linter.all false
namespace Go.Gv.F
open Go.Gv
variable {β:Type}
theorem Zu8 (c c':Zg) (n:Nat) (args:ah):NM c n args=DC c' n args:=rfl
variable {Bd:Zh} [h:HA Bd]
theorem ZjV (n za zb:Nat) (l m:List bc) (p q:ai) (st:St) (yO:za=4\/p=none) (yP:zb=4\/q=none) (hp:Sl st p (bK l)) (hq:Sl st q (bK m)) (hl:l.length<=50000) (hn:50100<=n):
  Ok (λo=>∃b,o=(.val [.bool b],st)/\(b=true↔l=m)) (run Bd n 235 [.slice za p l.length,.slice zb q m.length] st):=by
 obtain⟨n,rfl⟩: ∃m,n=m+1:=⟨n-1,by omega⟩;have:=ZhI (Bd:=λ_=>DC) ⟨rfl⟩ (n+1) za zb l m p q st yO yP hp hq hl hn;rw[Ze]at this;rw[Ze,h.abY,Zu8 _ (run (λ_=>DC) n)];exact this
theorem ZrE {Bd:Zh} (h:HA Bd) (n za zb:Nat) (x y:di) (p q:ai) (st:St) (yO:za=4\/p=none) (yP:zb=4\/q=none) (hp:Sl st p (bK x.bS)) (hq:Sl st q (bK y.bS)) (hl:x.bS.length<=50000) (hn:50110<=n):
  Ok (λo=>∃b,o=(.val [.bool b],st)/\(b=true↔x=y)) (run Bd n 199 [.agg (ju x za p),.agg (ju y zb q)] st):=by
 obtain⟨n,rfl⟩: ∃m,n=m+1:=⟨n-1,by omega⟩;rw[Ze,h.abp];unfold P3 GQ az aY Lb ju;rw[cG];simp only[bO,Zf 4 za p _ yO,aq];rw[cG];simp only[bO,Zf 4 zb q _ yP,aq,Za];by_cases rB:x.name=y.name
 .rw[show(x.name==y.name)=true by rw[rB];simp,ae]
  refine Ok.call (ZjV n 4 4 x.bS y.bS p q st (.inl rfl) (.inl rfl) hp hq hl (by omega)) ?_;rintro _ ⟨c,rfl,hc⟩;refine⟨_,st,rfl,?_⟩;simp only[au,aq,Zd];refine .mk ⟨c,rfl,hc.trans ⟨λe=>?_,λe=>by rw[e]⟩⟩;cases x;cases y;grind
 .rw[show(x.name==y.name)=false from dX.2 rB,af]
  simp only[au,aq,Zd];exact .mk ⟨false,rfl,by grind⟩
variable {f g:Bool} {i i2 j j2 k m m2 o y:Nat} {V W:al}
theorem ZpL {s:St} {ds:ah} {xs:List di} {x:di} (hs:Sl s (some (i,o)) ds) (hh:iZ s ds xs) (e:xs[j]? =some x): ∃z p,(z=4\/p=none)/\Sl s p (bK x.bS)/\∀K:ah->M β,bQ i (j*2+o) 2 K s=K (ju x z p) s:=by
 obtain⟨z,p,hz,h1,_,_,h2⟩:=hh.get e;have hj:j<xs.length:=by grind
 exact⟨z,p,hz,h2,λK=>by rw[hs.wY (k:=j*2) (n:=2) (by rw[hh.len];omega) K,h1]⟩
theorem Zli {Bd:Zh} (h:HA Bd) (h2:HA Bd) (n z1 z2:Nat) (xs ys:List di) (p q:ai) (st:St) (hU:z1=2\/p=none) (gy:z2=2\/q=none) (hx: ∃ds,Sl st p ds/\iZ st ds xs) (hy: ∃ds,Sl st q ds/\iZ st ds ys) (sz:NG xs) (hn:50120<=n):
  Ok (λo=>∃b,o=(.val [.bool b],st)/\(b=true↔xs=ys)) (run Bd n 198 [.slice z1 p xs.length,.slice z2 q ys.length,.func 199 [] []] st):=by
 obtain⟨n,rfl⟩: ∃m,n=m+1:=⟨n-1,by omega⟩;rw[Ze,h.abo];unfold ZO Q_ cH N_ aY Lb Li;simp only[Zf 2 z1 p _ hU,Zf 2 z2 q _ gy,ND,aq];have no:xs≠ys->Ok (λo=>∃b,o=(.val [.bool b],st)/\(b=true↔xs=ys)) ((ay [.bool false]:M ah) st):=by
  intro hm;rw[Zd];exact .mk (by grind)
 by_cases hlen:xs.length=ys.length;rotate_left
 .rw[show((xs.length:Int)==(ys.length:Int))=false from dX.2 (by omega),bm,ae]
  grind
 rw[show((xs.length:Int)==(ys.length:Int))=true by rw[hlen];simp,bp,af,Za];obtain⟨ds,hs,hh⟩:=hx;obtain⟨es,gs,gh⟩:=hy;have dN:=sz.len;refine Zj _ (λk v s=>∃i:Nat,v=[.int .i64 i]/\i<=xs.length/\xs.length-i<=k/\s=st/\∀j,j<i->xs[j]? =ys[j]?) ?_ xs.length n _ _ (by grind) (by omega);rintro k _ s ⟨i,rfl,hi,hk,rfl,cQ⟩ rec aQ;simp only[av,aq];by_cases ax:i<xs.length
 .obtain⟨i1,o1,rfl⟩:=hs.cB (by rw[hh.len];omega)
  obtain⟨i2,o2,rfl⟩:=gs.cB (by rw[gh.len];omega);have e1:xs[i]? =some xs[i]:=cg ax;have e2:ys[i]? =some ys[i]:=by grind
  generalize xs[i]=a at e1;generalize ys[i]=b at e2;have Uc:=sz.bS a (qJ e1);obtain⟨za,pa,yO,U5,la⟩:=ZpL (β:=ah) hs hh e1;obtain⟨zb,pb,yP,Ff,lb⟩:=ZpL (β:=ah) gs gh e2;rw[aw (show(i:Int)<(xs.length:Int) by omega),ae,aZ,Zb (Zi ax),br,la];unfold ju;simp only[bO,Zf 4 za pa _ yO,aq];rw[aZ,Zb (Zi),lb];unfold ju;simp only[bO,Zf 4 zb pb _ yP,aq];refine Ok.call (ZrE h2 n 4 4 a b pa pb s (.inl rfl) (.inl rfl) U5 Ff Uc (by omega)) ?_;rintro _ ⟨c,rfl,hc⟩;refine⟨_,s,rfl,?_⟩;simp only[au,aq];cases c with
  |false=>
   rw[bm,ae];exact no λe=>by
    rw[<-e,e1]at e2;grind
  |true=>
   rw[bp,af,Zc];refine aQ (xs.length-(i+1)) _ _ (by omega) ⟨i+1,rfl,by omega,by omega,rfl,λj hj=>?_⟩;by_cases kz:j<i
   .exact cQ j kz
   grind
 .rw[aD (show ¬(i:Int)<(xs.length:Int) by omega),af,Zd]
  refine .mk ⟨true,rfl,?_⟩;simp only[true_iff];exact qH λj=>by
   by_cases hj:j<i
   .exact cQ j hj
   grind
theorem ZfE (n:Nat) (ws vs:ak) (a b:ai) (st:St) (ha:Sl st a (ints ws)) (hb:Sl st b (ints vs)) (hn:ws.length+2<=n) (hs:ws.length<1000000):
  Ok (λo=>o=(.val [.bool (decide (ws=vs))],st)) (run Bd n 114 [.slice 1 a ws.length,.slice 1 b vs.length] st):=by
 obtain⟨n,rfl⟩: ∃m,n=m+1:=⟨n-1,by omega⟩;rw[Ze,h.aaQ,ZnM];exact Zte _ n ws vs 1 1 a b st (.inl rfl) (.inl rfl) ha hb
theorem ZrF (n:Nat) (x y:eL) (z1 z2 z3:Nat) (p1 p2 p3:ai) (y8 Db Dc:Nat) (q1 q2 q3:ai) (st:St) (hU:z1=2\/p1=none) (gy:z2=1\/p2=none) (kD:z3=1\/p3=none)
  (IA:y8=2\/q1=none) (Vy:Db=1\/q2=none) (Vz:Dc=1\/q3=none) (hx:na st x p1 p2 p3) (hy:na st y q1 q2 q3) (sz:By x) (hn:50200<=n):
  Ok (λo=>∃b,o=(.val [.bool b],st)/\(b=true↔x=y)) (run Bd n 174 [.agg (dD x z1 p1 z2 p2 z3 p3),.agg (dD y y8 q1 Db q2 Dc q3)] st):=by
 obtain⟨n,rfl⟩: ∃m,n=m+1:=⟨n-1,by omega⟩;rw[Ze,h.aa7];unfold PU ZH ZD az aY Lb tH;have ag: ∀(v:eL) (z1 z2 z3:Nat) (p1 p2 p3:ai) (l:ah) (K:ah->ah->M ah),bj (.agg (dD v z1 p1 z2 p2 z3 p3)::l) K=K (dD v z1 p1 z2 p2 z3 p3) l:=λ_ _ _ _ _ _ _ _ _=>rfl
 simp only[ag];unfold dD;simp only[av,Zf 2 z1 p1 _ hU,Zf 1 z2 p2 _ gy,Zf 1 z3 p3 _ kD,Zf 2 y8 q1 _ IA,Zf 1 Db q2 _ Vy,Zf 1 Dc q3 _ Vz,aq,Za];have no:x≠y->Ok (λo=>∃b,o=(.val [.bool b],st)/\(b=true↔x=y)) (some (Out.val [DV.bool false],st)):=λhm=> .mk (by grind)
 have hg:((x.blocks==y.blocks)&&((x.cJ==y.cJ)&&((x.g==y.g)&&true)))=true↔x.blocks=y.blocks/\x.cJ=y.cJ/\x.g=y.g:=by
  grind
 cases vr:((x.blocks==y.blocks)&&((x.cJ==y.cJ)&&((x.g==y.g)&&true)))with
 |false=>
  rw[af];simp only[au,aq,af,Zd];grind
 |true=>
 rw[ae];refine Ok.call (Zli h h n 2 2 x.aS y.aS p1 q1 st (.inl rfl) (.inl rfl) hx.hp hy.hp sz.h (by omega)) ?_;rintro _ ⟨c,rfl,hc⟩;refine⟨_,st,rfl,?_⟩;simp only[au,aq];cases c with
 |false=>
  rw[af];simp only[af,Zd];exact no λe=>by cases hc.2 (by rw[e])
 |true=>
 rw[ae];refine Ok.call (ZfE n x.aG y.aG p2 q2 st hx.gn hy.gn (by have:=sz.g;omega) (by have:=sz.g;omega)) ?_;rintro _ rfl;refine⟨_,st,rfl,?_⟩;simp only[au,aq];by_cases vv:x.aG=y.aG;rotate_left
 .rw[aD vv,af]
  simp only[Zd];exact no λe=>vv (by rw[e])
 rw[aw vv,ae];refine Ok.call (ZfE n x.free y.free p3 q3 st hx.fr hy.fr (by have:=sz.f;omega) (by have:=sz.f;omega)) ?_;rintro _ rfl;refine⟨_,st,rfl,?_⟩;simp only[au,aq,Zd];by_cases eO:x.free=y.free;rotate_left
 .rw[aD eO]
  exact no λe=>eO (by rw[e])
 rw[aw eO];refine .mk ⟨true,rfl,?_⟩;simp only[true_iff];cases x;cases y;grind
theorem uS (w j:Nat):fC w j=w.testBit j:=by rw[Nat.testBit_eq_decide_div_mod_eq];rfl
theorem Zti: ∀(w:Nat),0<w->∃k m,w=2^k*(2*m+1)
 |0,h=>absurd h (by decide)
 |w+1,_=>by
  by_cases h:(w+1)%2=1
  .exact⟨0,(w+1)/2,by omega⟩
  .obtain⟨k,m,e⟩:=Zti ((w+1)/2) (by omega)
   exact⟨k+1,m,by rw[zl,Nat.mul_right_comm,<-e];omega⟩
termination_by w=>w
decreasing_by omega
theorem xV (k a j:Nat):(2^k*a).testBit j=(decide (k<=j)&&a.testBit (j-k)):=by
 rw[Nat.testBit_two_pow_mul]
theorem GP (m i:Nat):(2*m+1).testBit i=(decide (i=0)||(2*m).testBit i):=by
 cases i with
 |zero=>simp[Nat.testBit_zero]
 |succ i=>
  rw[Nat.testBit_succ,Nat.testBit_succ,show(2*m+1)/2=m by omega,show 2*m/2=m by omega];simp
theorem Zpk (m:Nat):(2*m).testBit 0=false:=by simp[Nat.testBit_zero]
theorem ZwE (k a b j:Nat) (h:b<2^k):(2^k*a+b).testBit j=if j<k then b.testBit j else a.testBit (j-k):=by
 rw[Nat.testBit_two_pow_mul_add a h]
theorem Zv9 (k m:Nat):2^k*(2*m+1)&&& (2^k*(2*m+1)-1)=2^k*(2*m):=by
 have hp:0<2^k:=Nat.two_pow_pos k;have e:2^k*(2*m+1)-1=2^k*(2*m)+(2^k-1):=by rw[Nat.mul_add,cT];omega
 rw[e];refine FP λj=>?_
 rw[Nat.testBit_and,xV,ZwE k _ _ j (by omega),xV];by_cases hj:j<k
 .rw[aD (by omega)];simp
 grind[GP,Zpk]
theorem Zxa (k m n:Nat) (hk:k<n) (h:2^k*(2*m+1)<2^n):2^k*(2*m+1)&&& (2^n-2^k*(2*m+1))=2^k:=by
 have hn:2^n=2^k*(2*2^(n-k-1)):=by rw[<-Nat.pow_succ',<-Nat.pow_add];congr 1;omega
 rw[hn]at h⊢;have hm:2*m+1<2*2^(n-k-1):=Nat.lt_of_mul_lt_mul_left h;have gF:m<2^(n-k-1):=by omega
 rw[<-Nat.mul_sub,show 2*2^(n-k-1)-(2*m+1)=2*(2^(n-k-1)-(m+1))+1 by omega];refine FP λj=>?_
 rw[Nat.testBit_and,xV,xV,Nat.testBit_two_pow,GP,GP];by_cases hj:k<=j
 .rw[aw hj]
  by_cases h0:j=k
  .subst h0;simp
  .rw[aD (show ¬k=j by omega),aD (show ¬j-k=0 by omega)]
   obtain⟨i,hi⟩: ∃i,j-k=i+1:=⟨j-k-1,by omega⟩;rw[hi,Nat.testBit_succ,Nat.testBit_succ,Nat.mul_div_cancel_left _ (by decide),Nat.mul_div_cancel_left _ (by decide),Nat.testBit_two_pow_sub_succ gF];cases m.testBit i<;>simp
 grind
def sL (w:Nat):al:=(List.range 64).filter (fC w)
theorem Zuh:sL 0=[]:=by
 rfl
theorem Zvk (k n:Nat) (h:k<n):List.range n=List.range k++k::List.range' (k+1) (n-k-1):=by
 have:n=k+(1+(n-k-1)):=by omega
 rw[List.range_eq_range',List.range_eq_range']
 conv=>lhs;rw[this]
 rw[<-List.range'_append_1,tk 1,Jn,eW]
theorem Ztz (k m:Nat) (hk:k<64):sL (2^k*(2*m+1))=k::sL (2^k*(2*m)):=by
 unfold sL;rw[Zvk k 64 hk,FM,FM,List.filter_cons,List.filter_cons];have h1: ∀a,(List.range k).filter (fC (2^k*a))=[]:=λa=>by
  rw[List.filter_eq_nil_iff];grind[uS,xV]
 have h2:fC (2^k*(2*m+1)) k=true:=by rw[uS,xV,GP];simp
 have h3:fC (2^k*(2*m)) k=false:=by rw[uS,xV,Nat.sub_self,Zpk];simp
 rw[h1,h1,h2,h3,bG rfl,ba (by decide),iL,iL];refine congrArg (k:: ·) (List.filter_congr λj hj=>?_);rw[uS,uS,xV,xV,GP,aD (show ¬j-k=0 by have:=List.mem_range'_1.1 hj;omega)];rfl
theorem Rs (w:Nat):(sL w).length<=64:=by
 have:=List.length_filter_le (fC w) (List.range 64);rw[List.length_range]at this;exact this
def wI:Nat->al->ak
 |_,[]=>[]
 |b,w::r=>(sL w).map (λj=>((b*64+j:Nat):Int))++wI (b+1) r
def dC (W:al):ak:=wI 0 W
theorem Znw: ∀(b:Nat) (W:al),(wI b W).length<=64*W.length
 |_,[]=>aO _
 |b,w::r=>by
  unfold wI;have:=Znw (b+1) r;have:=Rs w;rw[bA,uG,cO];omega
theorem Znj: ∀(b:Nat) (W:al) (w:Nat),wI b (W++[w])=wI b W++(sL w).map (λj=>(((b+W.length)*64+j:Nat):Int))
 |b,[],w=>by simp[wI]
 |b,x::r,w=>by
  rw[mU];unfold wI;rw[Znj (b+1) r w,fA,cO,Nat.add_right_comm b 1,tj b]
theorem ZtL (W:al) (h:i<W.length):dC (W.take (i+1))=dC (W.take i)++(sL W[i]).map (λj=>((i*64+j:Nat):Int)):=by
 unfold dC;rw[mV h,Znj,cV,mW (by omega),eW]
def NH (Bd:Zh):Prop:=∀(n k m:Nat) (st:St),wo st->k<64->2^k*(2*m+1)<18446744073709551616->run Bd (n+1) 86 [.int .u64 ((2^k*(2*m+1):Nat):Int)] st=some (.val [.int .i64 (k:Int)],st)
theorem ZvM {a b:Nat} (ha:a<18446744073709551616) (hb:b<18446744073709551616:=by omega):bits .and .u64 (a:Int) (b:Int)=((a&&& b:Nat):Int):=WW ha hb
theorem ZkA (W:al) (i:Nat):(dC (W.take i)).length<=64*W.length:=by
 have h1:=Znw 0 (W.take i);grind[dC]
theorem Zlk (hz:NH Bd) (n:Nat) (st:St) (ht:wo st) (hs:fY st f i j m W) (hn:80<=n:=by omega):
  Ok (λo=>∃p s',o=(.val [.slice 1 p (dC W).length],s')/\aC st s'/\Sl s' p (ints (dC W))/\∀b∈aM p,st.length<=b) (run Bd n 172 [.ptr (some (i,0))] st):=by
 obtain⟨n,rfl⟩: ∃k,n=k+2:=⟨n-2,by omega⟩;rw[Ze,h.aa5];unfold OR ji fX lu BO cM bE eU mY Li jQ;simp only[fV,aq,aZ];rw[Zo hs.hd rfl];simp only[lq,Za];have hle:=hs.le;have hlen:=hs.len;refine Zj _ (λq y s=>∃(a z:Nat) (p:ai),y=[.slice z p (dC (W.take a)).length,.int .i64 a]/\(z=1\/p=none)/\a<=W.length/\W.length-a<=q/\bn st s p (ints (dC (W.take a)))) ?_ W.length (n+1) _ _ ⟨0,0,none,rfl,.inr rfl,cE _,by omega,bn.nil (.refl st)⟩ (by omega);rintro q _ s ⟨a,z,p,rfl,VC,ha,hq,ho⟩ rec aQ;simp only[av,Zf 1 z p _ VC,aq];have fH:=hs.pre ho.1;by_cases ax:a<W.length
 .rw[aw (show(a:Int)<(W.length:Int) by omega),ae,aZ,Zb (Zi ax),br]
  have Iy:=hs.lt _ (jP ax);rw[Zo (d:= .int .u64 (W[a]:Nat)) fH.wd (by rw[cT,gV];simp[ZV,ax])];simp only[aX];have vD:=ZtL W ax;have hA:=ZkA W a;generalize dC (W.take a)=A at ho vD hA;generalize W[a]=w at Iy vD;have cD:ar ((a:Int)+1)=((a+1:Nat):Int):=Zc;have fM:ar ((a:Int)*64)=((a*64:Nat):Int):=by rw[Zc];omega
  simp only[cD,fM];obtain⟨F,hF⟩: ∃F:Nat->Int,(λj=>((a*64+j:Nat):Int))=F:=⟨_,rfl⟩;rw[hF]at vD;refine Zj _ (λq' y t=>∃(w' z':Nat) (D:al) (p':ai),y=[.slice z' p' (A++D.map F).length,.int .u64 (w':Int)]/\(z'=1\/p'=none)/\w'<18446744073709551616/\D++sL w'=sL w/\(sL w').length<=q'/\bn st t p' (ints (A++D.map F))) ?_ 64 (n+1) _ _ ⟨w,1,[],p,by rw[List.map_nil,gA],.inl rfl,Iy,rfl,Rs w,by rw[List.map_nil,gA];exact ho⟩ (by omega);rintro q' _ t ⟨w',z',D,p',rfl,afh,Yj,hD,yG,vz⟩ dt j4;simp only[av,Zf 1 z' p' _ afh,aq];by_cases Fo:w'=0
  .subst Fo
   rw[show(!(((0:Nat):Int)==0))=false from rfl,af];simp only[bd,aq];rw[Zuh,gA]at hD;rw[hD,<-vD]at vz⊢;exact aQ (W.length-(a+1)) _ _ (by omega) ⟨a+1,1,p',rfl,.inl rfl,by omega,aO _,vz⟩
  .have hnz:(!((w':Int)==0))=true:=by rw[lL,dX];omega
   obtain⟨k,m',e⟩:=Zti w' (by omega);have hk:k<64:=by
    rcases jC k 64 with h|h
    .exact h
    .have h1:2^64<=2^k:=mX (by decide) h
     have h2:2^k*1<=2^k*(2*m'+1):=Nat.mul_le_mul_left _ (by omega);omega
   rw[hnz,ae];subst e;rw[Zk (hz n k m' t (ht.mono vz.1) hk Yj)];simp only[av,aq];have jI:ar (((a*64:Nat):Int)+(k:Int))=F k:=by rw[<-hF];exact Zc
   rw[jI];have yK:IntKind.wrap .u64 (((2^k*(2*m'+1):Nat):Int)-1)=((2^k*(2*m'+1)-1:Nat):Int):=by
    have h1:(((2^k*(2*m'+1):Nat):Int)-1)=((2^k*(2*m'+1)-1:Nat):Int):=by omega
    rw[h1];exact yd
   have iS:bits .and .u64 (((2^k*(2*m'+1):Nat):Int)) (IntKind.wrap .u64 (((2^k*(2*m'+1):Nat):Int)-1))=((2^k*(2*m'):Nat):Int):=by
    rw[yK,ZvM Yj,Zv9]
   rw[iS];rw[Ztz k m' hk]at hD yG;have hlD:(A++D.map F).length<=1000000:=by
    have h1:=congrArg List.length hD;rw[bA]at h1;have:=Rs w;rw[bA,uG];omega
   obtain⟨p2,s2,df,qf,he⟩:=vz.Bc (β:=ah) (sz:=1) (n:=(A++D.map F).length) (lim:=8796093022208) [.int .i64 (F k)] (we 0) (by simp[ints]) rfl (by omega);refine Eq.mpr (congrArg (Ok _) (he _)) ?_;refine j4 (sL (2^k*(2*m'))).length _ _ (by simp at yG;omega) ⟨_,1,D++[k],p2,?_,.inl rfl,?_,by rw[fA];exact hD,aO _,?_⟩
   .rw[fB,<-fA,bA (as:=A++D.map F)];rfl
   .have:2^k*(2*m')<=2^k*(2*m'+1):=Nat.mul_le_mul_left _ (by omega)
    omega
   .rw[fB,<-fA]
    unfold ints at df⊢;rw[fB (l₁:=A++D.map F)];exact df
 .rw[aD (show ¬(a:Int)<(W.length:Int) by omega),af]
  simp only[bd,aq,Zd];rw[dH (by omega)]at ho⊢;refine .mk ⟨p,s,rfl,ho.1,ho.sl,λb hb=>?_⟩;rcases ho.2 with⟨rfl,_⟩|⟨i',rfl,h1,_⟩
  .cases hb
  .rw[cx.1 hb];exact h1
theorem ZqD (n:Nat) (st:St) (hs:fY st f i j m W):run Bd (n+1) 212 [.ptr (some (i,0))] st=some (.val [.int .i64 (m:Int)],st):=by
 rw[Ze,h.abC];unfold OM ji Zm Li;simp only[fV,aq,aZ];rw[Zo hs.hd rfl];rfl
def YH (x:Int):Int:=match Od (λ_ _=>fail) 0 [.int .u64 x] []with
 |some (.val [.int _ v],_)=>v
 |_=>0
theorem Zr2 (n:Nat) (x:Int) (st:St):run Bd (n+1) 210 [.int .u64 x] st=some (.val [.int .i64 (YH x)],st):=by
 rw[Ze,h.abA];rfl
def Sm:Int->al->Int
 |a,[]=>a
 |a,w::r=>Sm (ar (a+YH w)) r
def Lj (W:al):Int:=Sm 0 W
theorem Zqr (n:Nat) (st:St) (hs:fY st f i j m W) (hn:80<=n):Ok (λo=>o=(.val [.int .i64 (Lj W)],st)) (run Bd n 183 [.ptr (some (i,0))] st):=by
 obtain⟨n,rfl⟩: ∃k,n=k+2:=⟨n-2,by omega⟩;rw[Ze,h.aba];unfold N5 ji nM gK BO cM Li mY fW;simp only[fV,aq,aZ];rw[Zo hs.hd rfl];simp only[lq,Za];have hle:=hs.le;have hlen:=hs.len;refine Zj _ (λq y s=>∃(a:Nat) (c:Int),y=[.int .i64 c,.int .i64 a]/\a<=W.length/\W.length-a<=q/\s=st/\Sm c (W.drop a)=Lj W) ?_ W.length (n+1) _ _ ⟨0,0,rfl,cE _,by omega,rfl,rfl⟩ (by omega);rintro q _ s ⟨a,c,rfl,ha,hq,rfl,hc⟩ rec aQ;simp only[av,aq];by_cases ax:a<W.length
 .rw[aw (show(a:Int)<(W.length:Int) by omega),ae,aZ,Zb (Zi ax),br]
  rw[Zo (d:= .int .u64 (W[a]:Nat)) hs.wd (by rw[cT,gV];simp[ZV,ax])];simp only[aX];rw[Zk (Zr2 n _ s)];simp only[av,aq];have cD:ar ((a:Int)+1)=((a+1:Nat):Int):=Zc;rw[cD];refine aQ (W.length-(a+1)) _ _ (by omega) ⟨a+1,_,rfl,by omega,aO _,rfl,?_⟩;rw[<-hc,iC ax];rfl
 .rw[aD (show ¬(a:Int)<(W.length:Int) by omega),af]
  simp only[Zd];rw[ke (by omega)]at hc;exact .mk (by rw[<-hc];rfl)
theorem Zpb (n:Nat) (W V:al) (a b:Nat) (f g:Bool) (st:St) (ha:st[a]? =some (some ⟨f,ZV W⟩)) (hb:st[b]? =some (some ⟨g,ZV V⟩)) (hW:W.length<100000) (hn:W.length+3<=n):
  Ok (λo=>o=(.val [.bool (decide (W=V))],st)) (run Bd n 236 [.slice 1 (some (a,0)) W.length,.slice 1 (some (b,0)) V.length] st):=by
 obtain⟨n,rfl⟩: ∃k,n=k+2:=⟨n-2,by omega⟩;rw[Ze,h.abZ];unfold NK cm Q_ cH BO Lb Li;simp only[bd,aq];have no:W≠V->Ok (λo=>o=(.val [.bool (decide (W=V))],st)) ((ay [.bool false]:M ah) st):=by
  intro hm;rw[Zd];exact .mk (by rw[aD hm])
 by_cases hlen:W.length=V.length;rotate_left
 .rw[show((W.length:Int)==(V.length:Int))=false from dX.2 (by omega),bm,ae]
  grind
 rw[show((W.length:Int)==(V.length:Int))=true by rw[hlen];simp,bp,af,Za];refine Zj _ (λk v s=>∃i:Nat,v=[.int .i64 i]/\i<=W.length/\W.length-i<=k/\s=st/\∀j,j<i->W[j]? =V[j]?) ?_ W.length (n+1) _ _ (by grind) (by omega);rintro k _ s ⟨i,rfl,hi,hk,rfl,cQ⟩ rec aQ;simp only[av,aq];by_cases ax:i<W.length
 .have jZ:i<V.length:=by omega
  rw[aw (show(i:Int)<(W.length:Int) by omega),ae,aZ,Zb (Zi ax),br];rw[Zo (d:= .int .u64 (W[i]:Nat)) ha (by rw[cT,gV];simp[ZV,ax])];simp only[aX];rw[aZ,Zb (Zi jZ)];rw[Zo (d:= .int .u64 (V[i]:Nat)) hb (by rw[cT,gV];simp[ZV,jZ])];simp only[aX];by_cases hw:W[i]=V[i]
  .rw[show(((W[i]:Nat):Int)==((V[i]:Nat):Int))=true by rw[hw];simp,bp,af,Zc]
   refine aQ (W.length-(i+1)) _ _ (by omega) ⟨i+1,rfl,by omega,by omega,rfl,λj hj=>?_⟩;by_cases kz:j<i
   .exact cQ j kz
   grind
  grind
 .rw[aD (show ¬(i:Int)<(W.length:Int) by omega),af,Zd]
  refine .mk ?_;have:W=V:=qH λj=>by
   by_cases hj:j<i
   .exact cQ j hj
   grind
  rw[aw this]
theorem Zlo (n:Nat) (st:St) (hs:fY st f i j m W) (kC:fY st g i2 j2 m2 V) (hn:80<=n:=by omega):
  Ok (λo=>o=(.val [.bool (decide (m=m2)&&decide (W=V))],st)) (run Bd n 202 [.ptr (some (i,0)),.ptr (some (i2,0))] st):=by
 obtain⟨n,rfl⟩: ∃k,n=k+1:=⟨n-1,by omega⟩;rw[Ze,h.abt];unfold ON ji Zm az aY Lb tH;simp only[fV,aq,aZ];rw[Zo hs.hd rfl];simp only[aX];rw[Zo kC.hd rfl];simp only[aX,Za];have hle:=hs.le;have hlen:=hs.len;by_cases hm:m=m2
 .rw[show((m:Int)==(m2:Int))=true by rw[hm];simp,ae,Zo hs.hd rfl]
  simp only[lq];rw[Zo kC.hd rfl];simp only[lq];refine Ok.call (Zpb n W V j j2 f g st hs.wd kC.wd (by omega) (by omega)) ?_;rintro _ rfl;refine⟨_,st,rfl,?_⟩;simp only[au,aq,Zd];exact .mk (by rw[aw hm,dx])
 .rw[show((m:Int)==(m2:Int))=false from dX.2 (by omega),af]
  simp only[au,aq,Zd];exact .mk (by rw[aD hm,fP])
def qW (l:List ZL):ah:=(l.map ZS).flatten
theorem J9 {x:ZL} (h:x.eF.length=48):(ZS x).length=49:=by simp[ZS,cO,Zt,h]
theorem QG: ∀ {l:List ZL},(∀x∈l,x.eF.length=48)->(qW l).length=l.length*49
 |[],_=>rfl
 |x::l,h=>by
  show(ZS x++qW l).length=_;rw[bA,J9 (h x (by simp)),QG λy hy=>h y (by simp[hy]),cO];omega
theorem ZmA: ∀ {l:List ZL} {j:Nat} {e:ZL},(∀x∈l,x.eF.length=48)->l[j]? =some e->((qW l).drop (j*49)).take 49=ZS e
 |[],j,e,_,h=>by simp at h
 |x::l,0,e,hl,h=>by
  simp only[lh,fQ]at h;subst h;rw[qK,dA];have:=J9 (hl x (by simp));show(ZS x++qW l).take 49=_;rw[<-this,Dj]
 |x::l,j+1,e,hl,h=>by
  have e2:qW (x::l)=ZS x++qW l:=rfl;have h49:=J9 (hl x (by simp));rw[e2,show(j+1)*49=(ZS x).length+j*49 by omega,<-kd,Bi];exact ZmA (by grind) (by simpa using h)
theorem Zsu (l m:List ZL):qW (l++m)=qW l++qW m:=by
 simp[qW]
def Bb (m:Nat) (x:ZL):Bool:=bif decide (0<(eE x 384).length)then decide ((eE x 384).getLastD 0>=(m:Int))else false
def zY (m:Nat):Nat->List ZL->al->Option (al)
 |_,[],W=>some W
 |i,x::r,W=>bif decide (x.no=i)&& !Bb m x then zY m (i+1) r ((eE x 384).foldl (bU m) W)else none
def Am (m:Nat) (l:List ZL):Option (al):=bif decide ((l.length:Int)=pD m 384)then zY m 0 l (kE m [])else none
theorem ZoS (n:Nat) (x:Int) (st:St):run Bd (n+1) 240 [.int .i64 x] st=some (.val [.int .i64 (pD x 384)],st):=by
 rw[Ze,h.ab4];rfl
theorem ZqJ (n m:Nat) (l:List ZL) (p:ai) (z:Nat) (st:St) (hm:m<=3072) (hz:z=49\/p=none) (hl:Sl st p (qW l)) (vj: ∀x∈l,x.eF.length=48/\x.no<8) (gS:l.length<1000) (hn:2000<=n):
  Ok (λo=>∃s',aC st s'/\match Am m l with
   |none=>o=(.val [.ptr none,.bool false],s')
   |some F=>∃i j,o=(.val [.ptr (some (i,0)),.bool true],s')/\fY s' false i j m F) (run Bd n 200 [.int .i64 (m:Int),.slice z p l.length] st):=by
 obtain⟨n,rfl⟩: ∃k,n=k+2:=⟨n-2,by omega⟩;obtain⟨R,hR⟩: ∃R,Am m l=R:=⟨_,rfl⟩;rw[hR];unfold Am at hR;rw[Ze,h.abq];unfold QD az Br Q_ cH N_ lN C_ Zm cM Li Lb;simp only[av,Zf 49 z p _ hz,aq];rw[Za,aD (show ¬((m:Nat):Int)<0 by omega),af,aD (show ¬((m:Nat):Int)>3072 by omega)];simp only[au,aq];rw[Za,af,Zk (ZoS n m st)];simp only[av,au,aq];have hq:(((l.length:Nat):Int)==pD m 384)=decide (((l.length:Nat):Int)=pD m 384):=rfl;rw[hq];cases EL:decide (((l.length:Nat):Int)=pD m 384)with
 |false=>
  rw[EL,af]at hR;rw[bm,ae,Zd,<-hR];exact .mk ⟨st,.refl st,rfl⟩
 |true=>
 rw[EL,ae]at hR;rw[bp,af];obtain⟨s1,e1,aH,Ml,MF⟩:=Qm (n+1) m [] none st hm rfl (by show 0<1000000;omega) (by grind);have wR:run Bd (n+1) 177 [.int .i64 (m:Int),.slice 0 none 0] st=some (.val [.ptr (some (st.length+1,0))],s1):=by
  rw[Ze,h.Xb]at e1⊢;exact e1
 rw[Zk wR];simp only[fV,aq];rw[Za];refine Zj _ (λq y s=>∃(i:Nat) (W:al),y=[.int .i64 i]/\i<=l.length/\l.length-i<=q/\aC st s/\fY s false (st.length+1) st.length m W/\zY m i (l.drop i) W=R) ?_ l.length (n+1) _ _ ⟨0,_,rfl,cE _,by omega,aH,MF,hR⟩ (by omega);rintro q _ s ⟨i,W,rfl,hi,hq,hJ,db,aN⟩ rec aQ;simp only[av,aq];by_cases ax:i<l.length
 .have dN:=hl.mono hJ
  have lY:l[i]? =some l[i]:=cg ax;obtain⟨TR,h8x⟩:=vj _ (jP ax);have hlen:=QG λx hx=>(vj x hx).1
  obtain⟨i1,o1,rfl⟩:=dN.cB (by rw[hlen];omega);have fE:l.drop i=l[i]::l.drop (i+1):=iC ax;rw[fE]at aN;rw[aw (show(i:Int)<(l.length:Int) by omega),ae,aZ,Zb (Zi ax),br,dN.wY (k:=i*49) (n:=49) (by rw[hlen];omega),ZmA (λx hx=>(vj x hx).1) lY];generalize l[i]=x at aN TR h8x;unfold zY at aN;have iG:(bZ x.eF).length=48:=by rw[Zt,TR]
  show Ok _ (aF .i64 (.int .i64 x.no::bZ x.eF) _ s);simp only[av];rw[bD iG,bD (by simp[iG])];refine Ok.call (Zqe (n+1) x TR h8x s (by omega)) ?_;rintro _ ⟨px,s2,rfl,aV,vq⟩;refine⟨_,s2,rfl,?_⟩;simp only[bd,aq];have xl:=db.pre aV;have agO:=ZpD x 384;have lH: ∀t,aC st t->R=none->Ok (λo=>∃s',aC st s'/\match R with
   |none=>o=(.val [.ptr none,.bool false],s')
   |some F=>∃i j,o=(.val [.ptr (some (i,0)),.bool true],s')/\fY s' false i j m F) ((ay [.ptr none,.bool false]:M ah) t):=by
   intro t ht e;rw[e,Zd];exact .mk ⟨t,ht,rfl⟩
  have dI:((((x.no:Nat):Int))==((i:Nat):Int))=decide (x.no=i):=by
   by_cases e:x.no=i
   .rw[e,aw rfl];grind
   grind
  rw[dI];cases cA:decide (x.no=i)with
  |false=>
   rw[cA,fP,af]at aN;rw[Za,bm,ae];simp only[au,aq,ae];exact lH s2 (hJ.trans aV) aN.symm
  |true=>
  rw[cA,dx]at aN;obtain⟨ov,xi⟩: ∃ov,Bb m x=ov:=⟨_,rfl⟩;rw[xi]at aN;unfold Bb at xi;refine Ok.join λca AK=>?_
  have hA:Ok (λo=>∃s',aC st s'/\match R with
   |none=>o=(.val [.ptr none,.bool false],s')
   |some F=>∃i j,o=(.val [.ptr (some (i,0)),.bool true],s')/\fY s' false i j m F) (ca [.bool ov] s2):=by
   rw[AK];simp only[au,aq];cases ov with
   |true=>
    rw[bp,af]at aN;rw[ae];exact lH s2 (hJ.trans aV) aN.symm
   |false=>
    rw[bm,ae]at aN;rw[af];have Ie:lr [st.length] px:=λb o e hb=>by
     rw[cx.1 hb]at e;subst e;obtain⟨all,e1⟩:=vq.2 _ _ rfl;rw[xl.wd]at e1;cases e1
    rw[Zk (JQ (n+1) (eE x 384) px s2 xl (by omega) vq.1 Ie)];simp only[aq];have cD:ar ((i:Int)+1)=((i+1:Nat):Int):=Zc;rw[cD];have aeB:=hJ.trans aV;refine aQ (l.length-(i+1)) _ _ (by omega) ⟨i+1,_,rfl,by omega,aO _,zU aeB (aO _) _,xl.add (by omega) _ (by rw[(oL m _ _).1]) ((oL m _ _).2 xl.lt),aN⟩
  rw[bp,af,Za];cases vA:decide (0<(eE x 384).length)with
  |false=>
   rw[vA,af]at xi;have:=Ds vA;rw[aD (show ¬(((eE x 384).length:Nat):Int)>0 by omega),af];simp only[au,aq];grind
  |true=>
   rw[vA,ae]at xi;have agV:=qL vA;obtain⟨i2,o2,rfl⟩:=vq.1.cB (by simp[ints];omega);have fM:ar ((((eE x 384).length:Nat):Int)-1)=(((eE x 384).length-1:Nat):Int):=by rw[Zc];omega
   rw[aw (show(((eE x 384).length:Nat):Int)>0 by omega),ae,aZ,fM,Zb (Zi),br,vq.1.dF (ZA)];simp only[aX];have HW:(eE x 384)[(eE x 384).length-1]'(by omega)=(eE x 384).getLastD 0:=by
    rw[List.getLastD_eq_getLast?,List.getLast?_eq_getElem?,cg (by omega)];rfl
   rw[HW,xi];simp only[au,aq];exact hA
 .rw[aD (show ¬(i:Int)<(l.length:Int) by omega),af]
  simp only[Zd];rw[ke (by omega)]at aN;rw[<-aN];exact .mk ⟨s,hJ,_,_,rfl,db⟩
def eJ (v:Int):Nat:=(v%18446744073709551616).toNat
def qD (v:Int):UInt8:=UInt8.ofNat (v%256).toNat
theorem sA (v:Int):eJ v<18446744073709551616:=by unfold eJ;omega
theorem DN (v:Int):IntKind.wrap .u64 v=((eJ v:Nat):Int):=by
 have e:v=v/18446744073709551616*18446744073709551616+((eJ v:Nat):Int):=by unfold eJ;omega
 have h:=yd (sA v);have hm:IntKind.wrap .u64 v=v%18446744073709551616:=rfl;rw[hm];unfold eJ;omega
theorem Zrq (v:Int):IntKind.wrap .u8 v=((qD v).toNat:Int):=by
 have hm:IntKind.wrap .u8 v=v%256:=rfl;rw[hm];unfold qD;show _=(((v%256).toNat%256:Nat):Int);omega
theorem Zpf (n:Nat) (v i:Nat) (hv:v<18446744073709551616) (st:St) (hi:i<1000) (hn:i+3<=n):
  Ok (λo=>o=(.val [.int .u8 ((v/256^i%256:Nat):Int)],st)) (run Bd n 248 [.int .u64 (v:Int),.int .i64 (i:Int)] st):=by
 obtain⟨n,rfl⟩: ∃k,n=k+2:=⟨n-2,by omega⟩;rw[Ze,h.acd];unfold Ph cy BZ D8 mj ZI mY;simp only[av,aq,Za];refine Zj _ (λq y s=>∃k:Nat,y=[.int .u64 ((v/256^k:Nat):Int),.int .i64 (k:Int)]/\k<=i/\i-k<=q/\s=st) ?_ i (n+1) _ _ ⟨0,by rw[Nat.pow_zero,Nat.div_one];rfl,cE _,by omega,rfl⟩ (by omega);rintro q _ s ⟨k,rfl,hk,hq,rfl⟩ rec aQ;simp only[av,aq];have hd:v/256^k<18446744073709551616:=FQ (Dm _ _) hv;by_cases ax:k<i
 .rw[aw (show(k:Int)<(i:Int) by omega),ae]
  have h1:((v/256^k:Nat):Int).tdiv 256=((v/256^(k+1):Nat):Int):=by
   rw[zl,<-Nat.div_div_eq_div_mul];rfl
  have h2:v/256^(k+1)<18446744073709551616:=by grind
  rw[h1,yd h2,Zc];exact aQ (i-(k+1)) _ _ (by omega) (by grind)
 .rw[aD (show ¬(k:Int)<(i:Int) by omega),af]
  have:k=i:=by omega
  subst this;simp only[Zd];refine .mk ?_;have h1:((v/256^k:Nat):Int).tmod 256=((v/256^k%256:Nat):Int):=rfl;rw[h1];have h2:IntKind.wrap .u8 ((v/256^k%256:Nat):Int)=((v/256^k%256:Nat):Int):=by
   show((v/256^k%256:Nat):Int)%256=_;omega
  rw[h2]
theorem ZuN (v n:Nat):dG v (n+1)=dG v n++[UInt8.ofNat (v/256^n)]:=by
 rw[Zq5];rfl
theorem Zty (x:Nat) (_h:x<256):sC [.int .u8 (x:Int)]=some [UInt8.ofNat x]:=rfl
theorem su (n:Nat) (v k:Nat) (hv:v<18446744073709551616) (st:St) (hk:k<1000:=by omega) (hn:k+10<=n:=by omega):
  Ok (λo=>∃s',o=(.val [.str (dG v k)],s')/\aC st s') (run Bd n 213 [.int .u64 (v:Int),.int .i64 (k:Int)] st):=by
 obtain⟨n,rfl⟩: ∃k,n=k+2:=⟨n-2,by omega⟩;rw[Ze,h.abD];unfold P8 cy sh tB Ls ZI mj eH;simp only[av,aq,Za];refine Zj _ (λq y s=>∃i:Nat,y=[.str (dG v i),.int .i64 (i:Int)]/\i<=k/\k-i<=q/\aC st s) ?_ k (n+1) _ _ ⟨0,rfl,cE _,by omega,.refl st⟩ (by omega);rintro q _ s ⟨i,rfl,hi,hq,hp⟩ rec aQ;simp only[bO,av,aq];by_cases ax:i<k
 .rw[aw (show(i:Int)<(k:Int) by omega),ae]
  refine Ok.call (Zpf (n+1) v i hv s (by omega) (by omega)) ?_;rintro _ rfl;refine⟨_,s,rfl,?_⟩;simp only[av,aq];rw[Zz,GO (by show 0+1<=1;omega)];show Ok _ (kq [.int .u8 ((v/256^i%256:Nat):Int)] _ _);unfold kq;rw[Zty _ (Nat.mod_lt _ (by decide))];simp only;rw[Zb (gr (by rw[Zy];show i+1<=_;omega)),Zc];refine aQ (k-(i+1)) _ _ (by omega) ⟨i+1,?_,by omega,aO _,hp.trans (aC.new _ _)⟩;rw[ZuN];have:UInt8.ofNat (v/256^i%256)=UInt8.ofNat (v/256^i):=by
   refine FV.1 ?_;simp
  rw[this];rfl
 .rw[aD (show ¬(i:Int)<(k:Int) by omega),af]
  have:i=k:=by omega
  subst this;simp only[Zd];exact .mk ⟨s,rfl,hp⟩
theorem Zp4 (n:Nat) (x:Nat) (hx:x<4294967296) (st:St):run Bd (n+1) 288 [.int .u32 (x:Int)] st=some (.val [.int .u32 (nD x:Nat)],st):=by
 rw[Ze,h.acJ];unfold PF kf nD;simp only[av,aq];have h1:((x:Int).tmod 2==1)=decide (x%2=1):=by
  have e:(x:Int).tmod 2=((x%2:Nat):Int):=rfl;rw[e];by_cases h:x%2=1
  .rw[h,aw rfl];rfl
  grind
 have h2:(x:Int).tdiv 2=((x/2:Nat):Int):=rfl;rw[h1,h2,zX];by_cases h:x%2=1
 .rw[aw h,ae,bG h]
  have:=Da (x:=x/2) (y:=2197175160) (by omega);rw[show((2197175160:Nat):Int)=2197175160 from rfl]at this;rw[this];rfl
 .rw[aD h,af,ba h];rfl
theorem Zo6 (n:Nat) (x k:Nat) (hx:x<4294967296) (st:St) (hk:k<1000) (hn:k+4<=n):
  Ok (λo=>o=(.val [.int .u32 (ZK k x:Nat)],st)) (run Bd n 264 [.int .u32 (x:Int),.int .i64 (k:Int)] st):=by
 obtain⟨n,rfl⟩: ∃k,n=k+2:=⟨n-2,by omega⟩;rw[Ze,h.acs];unfold Pj cy wF wC tO kf oN;simp only[av,aq,Za];have jZ: ∀i,ZK i x<4294967296:=λi=>by
  induction i with
  |zero=>exact hx
  |succ i ih=>rw[JN];exact ZqN ih
 refine Zj _ (λq y s=>∃i:Nat,y=[.int .u32 ((ZK i x:Nat):Int),.int .i64 (i:Int)]/\i<=k/\k-i<=q/\s=st) ?_ k (n+1) _ _ ⟨0,rfl,cE _,by omega,rfl⟩ (by omega);rintro q _ s ⟨i,rfl,hi,hq,rfl⟩ rec aQ;simp only[av,aq];by_cases ax:i<k
 .rw[aw (show(i:Int)<(k:Int) by omega),ae,Zk (Zp4 n _ (jZ i) s)]
  simp only[av,aq];rw[<-JN,Zc];exact aQ (k-(i+1)) _ _ (by omega) (by grind)
 .rw[aD (show ¬(i:Int)<(k:Int) by omega),af]
  have:i=k:=by omega
  subst this;simp only[Zd];exact .mk rfl
theorem ZqU (n:Nat) (a:ai) (l:aj) (st:St) (ha:dE st a l) (hl:l.length<1000000) (hn:l.length+20<=n):
  Ok (λo=>o=(.val [.int .u32 (va l:Nat)],st)) (run Bd n 242 [.slice 1 a l.length] st):=by
 obtain⟨n,rfl⟩: ∃k,n=k+2:=⟨n-2,by omega⟩;rw[Ze,h.ab6];unfold QE cm wF wC N_ mq tO kf oN;simp only[bd,aq,Za];refine Zj _ (λq y s=>∃(i:Nat),y=[.int .u32 (((l.take i).foldl rO 4294967295:Nat):Int),.int .i64 (i:Int)]/\i<=l.length/\l.length-i<=q/\s=st) ?_ l.length (n+1) _ _ (by grind) (by omega);rintro q _ s ⟨i,rfl,hi,hq,rfl⟩ rec aQ;simp only[av,aq];have hx:=GY (l.take i) (x:=4294967295) (by omega);by_cases ax:i<l.length
 .obtain⟨i1,o1,rfl⟩:=ha.cB (by omega)
  have lY:l[i]? =some l[i]:=cg ax;have fZ:l.take (i+1)=l.take i++[l[i]]:=by simp
  rw[aw (show(i:Int)<(l.length:Int) by omega),ae,aZ,Zb (Zi ax),br,ha.dF lY];simp only[aX];have hc:=(l[i]).toNat_lt;rw[zX,Da hx];refine Ok.call (Zo6 (n+1) _ 8 (FU (n:=32) (by omega) (by omega)) s (by omega) (by omega)) ?_;rintro _ rfl;refine⟨_,s,rfl,?_⟩;simp only[av,aq];rw[Zc];refine aQ (l.length-(i+1)) _ _ (by omega) ⟨i+1,?_,by omega,aO _,rfl⟩;rw[fZ,Bk];rfl
 .rw[aD (show ¬(i:Int)<(l.length:Int) by omega),af]
  simp only[Zd];rw[dH (by omega)]at hx⊢;refine .mk ?_;have h1:(4294967295:Int)-((l.foldl rO 4294967295:Nat):Int)=((va l:Nat):Int):=by unfold va;omega
  rw[h1,zX (SJ l)]
def kP (n:Nat):aj:=List.replicate n 0
def jo (s:aj) (n:Nat):aj:=s++kP (n-s.length)
def ou (kind tag:Int) (body:aj):aj:=[qD kind,qD tag,0,0]++jo body 56
def iz (kind tag:Int) (body:aj):aj:=dG (va (ou kind tag body)) 4++ou kind tag body
theorem ZpU (n:Nat):hZ n [.int .u8 0]=bZ (kP n):=by
 simp[hZ,kP,bZ]
theorem Zqj (n:Nat) (s:aj) (k:Nat) (hs:s.length<1000000) (hk:k<1000000) (st:St):
  Ok (λo=>∃s',o=(.val [.str (jo s k)],s')/\aC st s') (run Bd (n+1) 249 [.str s,.int .i64 (k:Int)] st):=by
 rw[Ze,h.ace];unfold PC oG mj Ls;simp only[bO,av,aq];have hw:ar ((k:Int)-(s.length:Int))=(k:Int)-(s.length:Int):=Zc;have hd:(if (k:Int)-(s.length:Int)<0 then(0:Int)else(k:Int)-(s.length:Int))=((k-s.length:Nat):Int):=by
  split<;>omega
 simp only[hw,hd,br];rw[Zb (by rw[aW,aW,bC,bC,bC];omega),Zz];rw[ZpU,GO (by rw[Zt];simp[kP]),dA,dH (by rw[Zt];simp[kP]),<-ly,nK];rw[Zb (gr (by grind[kP])),Zd];exact .mk ⟨_,rfl,aC.new _ _⟩
theorem zA (n:Nat) (kind tag:Int) (body:aj) (hb:body.length<100000) (st:St) (hn:body.length+200<=n:=by omega):
  Ok (λo=>∃s',o=(.val [.str (iz kind tag body)],s')/\aC st s') (run Bd n 214 [.int .i64 kind,.int .i64 tag,.str body] st):=by
 obtain⟨n,rfl⟩: ∃k,n=k+2:=⟨n-2,by omega⟩;rw[Ze,h.abE];unfold PG kK jD tO iM eH bE ZI Ls;simp only[bO,av,aq];have Aw:([.int .u8 (IntKind.wrap .u8 kind),.int .u8 (IntKind.wrap .u8 tag),.int .u8 0,.int .u8 0]:ah)=bZ [qD kind,qD tag,0,0]:=by
  rw[Zrq,Zrq];rfl
 rw[Aw,Zz,GO (by rw[Zt];show 0+4<=4;omega),dA,dH (by rw[Zt];show 4<=4;omega),<-ly,nK];refine Ok.lT (Zqj n body 56 (by omega) (by omega) _) ?_;rintro _ ⟨s1,rfl,aH⟩;refine⟨_,s1,rfl,aH,?_⟩;simp only[bO,aq];have hS:[qD kind,qD tag,0,0]++jo body 56=ou kind tag body:=rfl;have hSl:(ou kind tag body).length=4+(jo body 56).length:=by grind
 have agH:(jo body 56).length<=body.length+56:=by
  simp[jo,kP]
 rw[Zb (gr (by show 4+_<=_;omega)),hS,Zz];refine Ok.call (ZqU (n+1) (some (s1.length,0)) (ou kind tag body) _ ⟨false,ZW (ou kind tag body),by simp,Nat.le_of_eq (by rw[eW,ly]),by rw[dA,ly,sc]⟩ (by omega) (by omega)) ?_;rintro _ rfl;refine⟨_,_,rfl,?_⟩;simp only[av,aq];have hc:=SJ (ou kind tag body);rw[yd];refine Ok.call (su (n+1) _ 4 (by omega) _) ?_;rintro _ ⟨s2,rfl,aV⟩;refine⟨_,_,rfl,?_⟩;simp only[bO,aq];rw[Zb (gr (by rw[Zy];omega)),Zd];exact .mk ⟨s2,rfl,(((aC.new _ _).trans aH).trans (aC.new _ _)).trans aV⟩
theorem ZkF (n:Nat) (a:Int) (k:Nat) (hk:0<k) (iR:k<1000000000) (_ha: -9223372036854775808<=a/\a<=9223372036854775807) (st:St):run Bd (n+1) 179 [.int .i64 a,.int .i64 (k:Int)] st=some (.val [.int .i64 (a%(k:Int))],st):=by
 rw[Ze,h.aa9];unfold Qd gK Li;simp only[av,aq];have h0:(!((k:Int)==0))=true:=by rw[lL,dX];omega
 rw[Zb h0,Zb h0,Zd];have hb:=Int.tmod_lt_of_pos a (show(0:Int)<k by omega);have cU: -(k:Int)<a.tmod k:=by
  have:=Int.neg_tmod a k;have h3:=Int.tmod_lt_of_pos (-a) (show(0:Int)<k by omega);omega
 have hw:ar (a.tmod k+k)=a.tmod k+k:=Zc;rw[hw];have he:(a.tmod k+k).tmod k=a%k:=by
  rw[Int.tmod_eq_emod_of_nonneg (by omega),Int.add_emod_right];have e:a.tmod k=a+k*(-(a.tdiv k)):=by
   have:=Int.mul_tdiv_add_tmod a k;rw[Int.mul_neg];omega
  rw[e,Int.add_mul_emod_self_left]
 rw[he]
def iT (l:ak):aj:=(l.map λk=>dG (eJ k) 2).flatten
theorem sm (l:ak):(iT l).length=2*l.length:=by
 unfold iT;induction l with
 |nil=>rfl
 |cons k l ih=>rw[pF,De,bA,Zy,ih,cO];omega
theorem Gt (l:ak) (h:i<l.length):iT (l.take (i+1))=iT (l.take i)++dG (eJ l[i]) 2:=by
 unfold iT;rw[mV h,fB,Jj];simp
def jm (k:Int):Bool:=decide (k>=2)&&decide (k<=3071)
theorem Ge (n:Nat) (k:Int) (st:St):run Bd (n+1) 251 [.int .i64 k] st=some (.val [.bool (jm k)],st):=by
 rw[Ze,h.acg];unfold Pq cy az Lb jm;simp only[av,aq,Za];cases decide (k>=2)<;>rfl
theorem ZY {a b:Nat} (h:a<=b) (K:M β):aB (Nat.ble a b) K=K:=Zb (gr h) K
def MY (x:jj):aj:=dG (eJ x.bI.key) 8++dG (eJ x.bI.value) 8++dG (eJ x.bI.slot) 4++dG (eJ x.bI.gen) 4++iT x.kids
def vS (x:jj):aj:=iz 1 x.kids.length (MY x)
theorem Zk6 (n:Nat) (x:jj) (z:Nat) (p:ai) (st:St) (hz:z=1\/p=none) (hs:Sl st p (ints x.kids)) (hl:x.kids.length<1000) (hn:2400<=n:=by omega):
  Ok (λo=>∃s',o=(.val [.str (vS x)],s')/\aC st s') (run Bd n 250 [.agg (nA x z p)] st):=by
 obtain⟨n,rfl⟩: ∃k,n=k+2:=⟨n-2,by omega⟩;rw[Ze,h.acf];unfold P5 DK jD Bq sh iM tB Zn ZI oH Ls eH nA eN;simp only[mU,iL];rw[cG];simp only[av,Zf 1 z p _ hz,aq,DN];refine Ok.lT (su (n+1) _ 8 (sA _) st) ?_;rintro _ ⟨s1,rfl,aH⟩;refine⟨_,s1,rfl,aH,?_⟩;simp only[bO,aq];refine Ok.lT (su (n+1) _ 8 (sA _) s1) ?_;rintro _ ⟨s2,rfl,aV⟩;refine⟨_,s2,rfl,aV,?_⟩;simp only[bO,aq];rw[ZY (by rw[Zy,Zy];omega)];refine Ok.lT (su (n+1) _ 4 (sA _) s2) ?_;rintro _ ⟨s3,rfl,ck⟩;refine⟨_,s3,rfl,ck,?_⟩;simp only[bO,aq];rw[ZY (by rw[bA,Zy,Zy,Zy];omega)];refine Ok.Af (su (n+1) _ 4 (sA _) s3) ?_;rintro _ ⟨s4,rfl,fG⟩;refine⟨_,s4,rfl,?_⟩;simp only[bO,aq];rw[ZY (by rw[bA,bA,Zy,Zy,Zy,Zy];omega),Za];have hP:=((aH.trans aV).trans ck).trans fG;obtain⟨A,hA⟩: ∃A,dG (eJ x.bI.key) 8++dG (eJ x.bI.value) 8++dG (eJ x.bI.slot) 4++dG (eJ x.bI.gen) 4=A:=⟨_,rfl⟩;have wZ:A.length=24:=by rw[<-hA];simp[Zy]
 rw[hA];refine Zj _ (λq y s=>∃i:Nat,y=[.str (A++iT (x.kids.take i)),.int .i64 (i:Int)]/\i<=x.kids.length/\x.kids.length-i<=q/\aC st s) ?_ x.kids.length (n+1) _ _ ⟨0,by rw[List.take_zero];show _=[DV.str (A++[]),_];rw[gA];rfl,cE _,by omega,hP⟩ (by omega);rintro q _ s ⟨i,rfl,hi,hq,hJ⟩ rec aQ;simp only[bO,av,aq];by_cases ax:i<x.kids.length
 .have dN:=hs.mono hJ
  obtain⟨i1,o1,rfl⟩:=dN.cB (by simp[ints];omega);rw[aw (show(i:Int)<(x.kids.length:Int) by omega),ae,aZ,Zb (Zi ax),br,dN.dF (ZA ax)];simp only[aX];refine Ok.call (su (n+1) _ 2 (sA _) s) ?_;rintro _ ⟨s5,rfl,jd⟩;refine⟨_,s5,rfl,?_⟩;simp only[bO,aq];rw[ZY (by rw[bA,sm,Zy,cV,wZ];omega),Zc];refine aQ (x.kids.length-(i+1)) _ _ (by omega) ⟨i+1,by rw[Gt _ ax,fA];rfl,by omega,aO _,hJ.trans jd⟩
 .rw[aD (show ¬(i:Int)<(x.kids.length:Int) by omega),af]
  rw[dH (by omega)];refine Ok.call (zA (n+1) 1 x.kids.length (A++iT x.kids) (by rw[bA,sm];omega) s (by rw[bA,sm];omega)) ?_;rintro _ ⟨s5,rfl,jd⟩;refine⟨_,s5,rfl,?_⟩;simp only[bO,aq,Zd];refine .mk ⟨s5,?_,hJ.trans jd⟩;unfold vS MY;rw[hA]
def vU (x:bw):Bool:= !(decide (x.gen<0)||decide (x.gen>4294967295))&&(bif x.live then decide (x.gen>0)&&jm x.block else(decide (x.block>=0)&&decide (x.block<=1792))&&(!(x.gen==0)||x.block==0))
theorem Zqa (n:Nat) (x:bw) (st:St):run Bd (n+2) 252 [.agg (ee x)] st=some (.val [.bool (vU x)],st):=by
 rw[Ze,h.ach];unfold PI pP az aY Lb Li vU ee;rw[cG];simp only[au,av,aq,Za];have e0:=Ge n x.block st;cases decide (x.gen<0)with
 |true=>rfl
 |false=>
 cases decide (x.gen>4294967295)with
 |true=>rfl
 |false=>
 simp only[af,Bool.or_self,bm,dx];cases x.live with
 |true=>
  simp only[ae];cases decide (x.gen>0)with
  |true=>
   simp only[ae];rw[Zk e0];rfl
  |false=>rfl
 |false=>
  simp only[af];cases decide (x.block>=0)with
  |false=>rfl
  |true=>
   simp only[ae,dx];cases decide (x.block<=1792)with
   |false=>rfl
   |true=>
    simp only[ae,dx];cases(x.gen==0)with
    |true=>rfl
    |false=>rfl
def ni:List bw->aj
 |[]=>[]
 |x::r=>dG (eJ x.gen) 4++dG (eJ x.block) 4++ni r
def jB:Nat->List bw->Nat
 |_,[]=>0
 |k,x::r=>(bif x.live then 2^k else 0)+jB (k+1) r
theorem Re: ∀l:List bw,(ni l).length=8*l.length
 |[]=>rfl
 |x::r=>by rw[ni,bA,bA,Zy,Zy,Re r,cO];omega
theorem Znh: ∀l m:List bw,ni (l++m)=ni l++ni m
 |[],m=>rfl
 |x::r,m=>by rw[mU,ni,ni,Znh r m,<-fA]
theorem ZpN: ∀(k:Nat) (l m:List bw),jB k (l++m)=jB k l+jB (k+l.length) m
 |k,[],m=>by simp[jB]
 |k,x::r,m=>by rw[mU,jB,jB,ZpN (k+1) r m,cO,show k+1+r.length=k+(r.length+1) by omega,tj]
theorem Zqt: ∀(k:Nat) (l:List bw),jB k l+2^k<=2^(k+l.length)
 |k,[]=>by simp[jB]
 |k,x::r=>by
  have:=Zqt (k+1) r;rw[jB,cO,show k+(r.length+1)=k+1+r.length by omega];grind
def wD (l:List bw):Option (aj):=bif l.all vU then some (iz 2 (jB 0 l:Nat) (ni l))else none
def xI:Option (aj)->ah
 |some s=>[.str s,.bool true]
 |none=>[.str [],.bool false]
theorem ZkE (n:Nat) (l:List bw) (hl:l.length=7) (st:St) (hn:400<=n:=by omega):
  Ok (λo=>∃s',o=(.val (xI (wD l)),s')/\aC st s') (run Bd n 219 [.agg (bP l)] st):=by
 obtain⟨n,rfl⟩: ∃k,n=k+3:=⟨n-3,by omega⟩;obtain⟨R,hR⟩: ∃R,wD l=R:=⟨_,rfl⟩;rw[hR];unfold wD at hR;rw[Ze,h.abJ];unfold Qe oG iM gK aY nM jD Bq oH uO ZI xR Li eH;have cL:(bP l).length=21:=by rw[Zx,hl]
 rw[cG,bD cL];simp only[aq];rw[bD cL,Za];refine Zj _ (λq y s=>∃i:Nat,y=[.str (ni (l.take i)),.int .i64 ((jB 0 (l.take i):Nat):Int),.int .i64 (i:Int)]/\i<=7/\7-i<=q/\aC st s/\(l.take i).all vU=true) ?_ 7 (n+2) _ _ ⟨0,rfl,cE _,by omega,.refl st,rfl⟩ (by omega);rintro q _ s ⟨i,rfl,hi,hq,hJ,cQ⟩ rec aQ;simp only[bO,av,aq];by_cases ax:i<7
 .have uj:i<l.length:=by omega
  have fZ:l.take (i+1)=l.take i++[l[i]]:=by simp
  have lY:l[i]? =some l[i]:=cg uj;have Aw:((bP l).drop (i*3)).take 3=ee l[i]:=Kd lY;rw[aw (show(i:Int)<7 by omega),ae,Zb (show aP (i:Int) 7=true from Zi ax),br,ZY (by omega),Aw];have jc:l[i]∈l:=jP uj;generalize l[i]=x at fZ jc;rw[bD (cs:=ee x) (n:=3) rfl,Zk (Zqa n x s)];simp only[au,aq];cases hx:vU x with
  |false=>
   rw[bm,ae,Zd];have cA:l.all vU=false:=by
    rw[List.all_eq_false];grind
   rw[cA,af]at hR;rw[<-hR];exact .mk ⟨s,rfl,hJ⟩
  |true=>
   rw[bp,af];unfold ee;rw[gW (d:= .bool x.live) rfl];simp only[tq];have vE:=Zqt 0 (l.take i);rw[cV,mW (by omega),eW]at vE;have h7:2^i<=2^7:=mX (by decide) (by omega);have adp:(l.take (i+1)).all vU=true:=by rw[fZ,sa,cQ];simp[hx]
   refine Ok.join λaI jY=>?_
   have hA:Ok (λo=>∃s',o=(.val (xI R),s')/\aC st s') (aI [.int .i64 ((jB 0 (l.take (i+1)):Nat):Int)] s):=by
    rw[jY];simp only[av,aq];rw[gW (d:= .int .i64 x.gen) rfl];simp only[aX,DN];refine Ok.lT (su (n+2) _ 4 (sA _) s) ?_;rintro _ ⟨s1,rfl,aH⟩;refine⟨_,s1,rfl,aH,?_⟩;simp only[bO,aq];have dN:=Re (l.take i);rw[cV]at dN;rw[ZY (by rw[dN,Zy];omega),gW (d:= .int .i64 x.block) rfl];simp only[aX];refine Ok.Af (su (n+2) _ 4 (sA _) s1) ?_;rintro _ ⟨s2,rfl,aV⟩;refine⟨_,s2,rfl,?_⟩;simp only[bO,aq];rw[ZY (by rw[bA,dN,Zy,Zy];omega),Zc];refine aQ (7-(i+1)) _ _ (by omega) ⟨i+1,?_,by omega,aO _,(hJ.trans aH).trans aV,adp⟩;rw[fZ,Znh];simp[ni]
   have Vo:jB 0 (l.take (i+1))=jB 0 (l.take i)+(bif x.live then 2^i else 0):=by
    rw[fZ,ZpN,cV,mW (by omega),eW];simp[jB]
   cases fg:x.live with
   |false=>
    rw[fg,af]at Vo;have ae6:jB 0 (l.take i)=jB 0 (l.take (i+1)):=Vo.symm;rw[af,ae6];exact hA
   |true=>
    rw[fg,ae]at Vo;rw[ae,Zb (aw (by omega)),mW (by omega)];have e1:ar (1*2^i)=((2^i:Nat):Int):=by
     rw[Int.one_mul,show((2:Int)^i)=((2^i:Nat):Int) by push_cast;rfl];exact Zc
    rw[e1,Zc];grind
 .rw[aD (show ¬(i:Int)<7 by omega),af]
  rw[dH (by omega)]at cQ⊢;rw[cQ,ae]at hR;have dN:=Re l;refine Ok.call (zA (n+2) 2 (jB 0 l:Nat) (ni l) (by omega) s) ?_;rintro _ ⟨s1,rfl,aH⟩;refine⟨_,s1,rfl,?_⟩;simp only[bO,aq,Zd];rw[<-hR];exact .mk ⟨s1,rfl,hJ.trans aH⟩
def tN (l:ak):Option (aj):=bif l.all λk=>k==0||jm k then some (iz 3 0 (iT l))else none
theorem PO (n:Nat) (l:ak) (hl:l.length=16) (st:St) (hn:400<=n:=by omega):
  Ok (λo=>∃s',o=(.val (xI (tN l)),s')/\aC st s') (run Bd n 218 [.agg (ints l)] st):=by
 obtain⟨n,rfl⟩: ∃k,n=k+3:=⟨n-3,by omega⟩;obtain⟨R,hR⟩: ∃R,tN l=R:=⟨_,rfl⟩;rw[hR];unfold tN at hR;rw[Ze,h.abI];unfold QH sh iM tB az aY oH uO ZI eH Li Lb Ls;have cL:(ints l).length=16:=by simp[ints,hl]
 rw[cG,bD cL];simp only[aq];rw[bD cL,Za];refine Zj _ (λq y s=>∃i:Nat,y=[.str (iT (l.take i)),.int .i64 (i:Int)]/\i<=16/\16-i<=q/\aC st s/\((l.take i).all λk=>k==0||jm k)=true) ?_ 16 (n+2) _ _ ⟨0,rfl,cE _,by omega,.refl st,rfl⟩ (by omega);rintro q _ s ⟨i,rfl,hi,hq,hJ,cQ⟩ rec aQ;simp only[bO,av,aq];by_cases ax:i<16
 .have uj:i<l.length:=by omega
  have fZ:l.take (i+1)=l.take i++[l[i]]:=by simp
  have EZ:(ints l)[i*1]? =some (.int .i64 l[i]):=by rw[cT];exact ZA uj
  have jc:l[i]∈l:=jP uj;have HX:=Gt l uj;have UH:aP (i:Int) 16=true:=Zi ax;rw[aw (show(i:Int)<16 by omega),ae];simp only[br];rw[Zb UH,gW EZ];simp only[aX];generalize l[i]=x at fZ EZ jc HX;refine Ok.join λaI jY=>?_
  have cA:(x==0||jm x)=false->Ok (λo=>∃s',o=(.val (xI R),s')/\aC st s') ((ay [.str (bs []),.bool false]:M ah) s):=λe=>by
   have cA:(l.all λk=>k==0||jm k)=false:=by
    rw[List.all_eq_false];grind
   rw[cA,af]at hR;rw[<-hR,Zd];exact .mk ⟨s,rfl,hJ⟩
  have Ym:(x==0||jm x)=true->Ok (λo=>∃s',o=(.val (xI R),s')/\aC st s') (aI [.bool false] s):=λe=>by
   rw[jY];simp only[au,aq];rw[af,Zb UH,gW EZ];simp only[aX,DN];refine Ok.call (su (n+2) _ 2 (sA _) s) ?_;rintro _ ⟨s1,rfl,aH⟩;refine⟨_,s1,rfl,?_⟩;simp only[bO,aq];rw[ZY (by rw[sm,Zy,cV];omega),Zc];refine aQ (16-(i+1)) _ _ (by omega) ⟨i+1,by rw[HX];rfl,by omega,aO _,hJ.trans aH,?_⟩;rw[fZ,sa,cQ];simpa using e
  cases h0:(x==0)with
  |true=>
   rw[bp,af];grind
  |false=>
   rw[bm,ae,Zb UH,gW EZ];simp only[aX];rw[Zk (Ge (n+1) x s)];simp only[au,aq];cases hb:jm x with
   |true=>grind
   |false=>
    rw[jY];simp only[au,aq,bm,ae];grind
 .rw[aD (show ¬(i:Int)<16 by omega),af]
  rw[dH (by omega)]at cQ⊢;rw[cQ,ae]at hR;have dN:=sm l;refine Ok.call (zA (n+2) 3 0 (iT l) (by omega) s) ?_;rintro _ ⟨s1,rfl,aH⟩;refine⟨_,s1,rfl,?_⟩;simp only[bO,aq,Zd];rw[<-hR];exact .mk ⟨s1,rfl,hJ.trans aH⟩
def xF (x:ZC):aj:=iz 5 x.name.length (dG (eJ x.mask) 4++iT x.c9++x.name)
theorem Zlz (n:Nat) (x:ZC) (hl:x.c9.length=12) (hm:x.name.length<60000) (st:St) (hn:x.name.length+500<=n):
  Ok (λo=>∃s',o=(.val [.str (xF x)],s')/\aC st s') (run Bd n 216 [.agg (ZU x)] st):=by
 obtain⟨n,rfl⟩: ∃k,n=k+3:=⟨n-3,by omega⟩;rw[Ze,h.abG];unfold QJ iM sh tB ZI oH Ls eH ZU;have cL:(ints x.c9).length=12:=by simp[ints,hl]
 rw[cG];simp only[bO,av];rw[bD cL];simp only[aq];rw[bD (n:=14) (by simp[cL])];simp only[DN];refine Ok.call (su (n+2) _ 4 (sA _) st) ?_;rintro _ ⟨s0,rfl,yF⟩;refine⟨_,s0,rfl,?_⟩;simp only[bO,aq];rw[Za];have hA:(dG (eJ x.mask) 4).length=4:=Zy _ _;unfold xF;generalize dG (eJ x.mask) 4=A at hA;refine Zj _ (λq y s=>∃i:Nat,y=[.str (A++iT (x.c9.take i)),.int .i64 (i:Int)]/\i<=12/\12-i<=q/\aC st s) ?_ 12 (n+2) _ _ ⟨0,by rw[List.take_zero];show _=[DV.str (A++[]),_];rw[gA];rfl,cE _,by omega,yF⟩ (by omega);rintro q _ s ⟨i,rfl,hi,hq,hJ⟩ rec aQ;simp only[bO,av,aq];by_cases ax:i<12
 .have uj:i<x.c9.length:=by omega
  have EZ:(ints x.c9)[i*1]? =some (.int .i64 x.c9[i]):=by rw[cT];exact ZA uj
  rw[aw (show(i:Int)<12 by omega),ae];simp only[br];rw[Zb (show aP (i:Int) 12=true from Zi ax),gW EZ];simp only[aX];refine Ok.call (su (n+2) _ 2 (sA _) s) ?_;rintro _ ⟨s1,rfl,aH⟩;refine⟨_,s1,rfl,?_⟩;simp only[bO,aq];rw[ZY (by rw[bA,hA,sm,Zy,cV];omega),Zc];exact aQ (12-(i+1)) _ _ (by omega) ⟨i+1,by rw[Gt _ uj,fA];rfl,by omega,aO _,hJ.trans aH⟩
 .rw[aD (show ¬(i:Int)<12 by omega),af]
  rw[dH (by omega)];have dN:=sm x.c9;rw[ZY (by rw[bA];omega)];refine Ok.call (zA (n+2) 5 x.name.length (A++iT x.c9++x.name) (by rw[bA,bA];omega) s (by rw[bA,bA];omega)) ?_;rintro _ ⟨s1,rfl,aH⟩;refine⟨_,s1,rfl,?_⟩;simp only[bO,aq,Zd];exact .mk ⟨s1,rfl,hJ.trans aH⟩
def ra:ak->Nat->Bool
 |_l,0=>true
 |l,i+1=>ra l i&&(jm (l.getD i 0)&& !decide (l.getD i 0∈l.take i))
def wK (l:ak):Option (aj):=bif decide (1<=l.length)&&(decide (l.length<=16)&&ra l l.length)then some (iz 6 l.length (iT l))else none
theorem Zr4 {l:ak} : ∀ {i j:Nat},i<=j->ra l j=true->ra l i=true
 |i,0,h,e=>by
  grind
 |i,j+1,h,e=>by
  by_cases oU:i=j+1
  .subst oU;exact e
  .unfold ra at e
   rw[aW]at e;exact Zr4 (by omega) e.1
theorem ZkX (n:Nat) (l:ak) (z:Nat) (p:ai) (st:St) (hz:z=1\/p=none) (hs:Sl st p (ints l)) (hl:l.length<1000:=by omega) (hn:2500<=n:=by omega):
  Ok (λo=>∃s',o=(.val (xI (wK l)),s')/\aC st s') (run Bd n 215 [.slice z p l.length] st):=by
 obtain⟨n,rfl⟩: ∃k,n=k+3:=⟨n-3,by omega⟩;obtain⟨R,hR⟩: ∃R,wK l=R:=⟨_,rfl⟩;rw[hR];unfold wK at hR;rw[Ze,h.abF];unfold Qy cm az sh iM tB Zn aY Q_ cH uO oH eH Li ZI Ls Lb;simp only[Zf 1 z p _ hz,aq];rw[Za];have lH: ∀s,aC st s->R=none->Ok (λo=>∃s',o=(.val (xI R),s')/\aC st s') ((ay [.str (bs []),.bool false]:M ah) s):=λs hJ e=>by
  rw[e,Zd];exact .mk ⟨s,rfl,hJ⟩
 by_cases h1:1<=l.length;rotate_left
 .rw[aw (show((l.length:Nat):Int)<1 by omega),ae]
  simp only[au,aq,ae];refine lH st (.refl st) ?_;rw[aD h1,fP,af]at hR;exact hR.symm
 by_cases rk:l.length<=16;rotate_left
 .rw[aD (show ¬((l.length:Nat):Int)<1 by omega),af,aw (show((l.length:Nat):Int)>16 by omega)]
  simp only[au,aq,ae];refine lH st (.refl st) ?_;rw[aD rk,fP,Bg,af]at hR;exact hR.symm
 rw[aw h1,aw rk,dx,dx]at hR;rw[aD (show ¬((l.length:Nat):Int)<1 by omega),af,aD (show ¬((l.length:Nat):Int)>16 by omega)];simp only[au,aq];rw[af,Za];have ad8: ∀i,i<=l.length->ra l i=false->R=none:=λi hi e=>by
  cases hf:ra l l.length with
  |true=>rw[Zr4 hi hf]at e;cases e
  |false=>rw[hf,af]at hR;exact hR.symm
 refine Zj _ (λq y s=>∃i:Nat,y=[.str (iT (l.take i)),.int .i64 (i:Int)]/\i<=l.length/\l.length-i<=q/\aC st s/\ra l i=true) ?_ l.length (n+2) _ _ ⟨0,rfl,cE _,by omega,.refl st,rfl⟩ (by omega);rintro q _ s ⟨i,rfl,hi,hq,hJ,cQ⟩ rec aQ;simp only[bO,av,aq];by_cases ax:i<l.length
 .have dN:=hs.mono hJ
  obtain⟨i1,o1,rfl⟩:=dN.cB (by simp[ints];omega);have xc:l.getD i 0=l[i]:=by rw[dZ,cg ax];rfl
  have HX:=Gt l ax;have fu:ra l (i+1)=(jm l[i]&& !decide (l[i]∈l.take i)):=by
   show(ra l i&&_)=_;rw[cQ,dx,xc]
  have cZ:(ints l)[i]? =some (.int .i64 l[i]):=ZA ax;rw[aw (show(i:Int)<(l.length:Int) by omega),ae,Za,aZ,Zb (Zi ax)];simp only[br];rw[dN.dF cZ];simp only[aX];obtain⟨x,hx⟩: ∃x,l[i]=x:=⟨_,rfl⟩;rw[hx]at cZ HX fu⊢;rw[Zk (Ge (n+1) x s)];simp only[au,aq];cases hb:jm x with
  |false=>
   rw[bm,ae];grind
  |true=>
   rw[bp,af,Za];refine Zj _ (λq y t=>∃k:Nat,y=[.int .i64 (k:Int)]/\k<=i/\i-k<=q/\t=s/\x∉l.take k) ?_ i (n+2) _ _ (by grind) (by omega);rintro q2 _ t ⟨k,rfl,hk,CF,rfl,oV⟩ dt j4;simp only[av,aq];by_cases hlk:k<i
   .have iR:k<l.length:=by omega
    have uf:(ints l)[k]? =some (.int .i64 l[k]):=ZA iR;rw[aw (show(k:Int)<(i:Int) by omega),ae,aZ,Zb (Zi iR)];simp only[br];rw[dN.dF uf];simp only[aX];rw[aZ,Zb (Zi ax)];rw[dN.dF cZ];simp only[aX];by_cases he:l[k]=x
    .rw[show(l[k]==x)=true by rw[he];grind,ae]
     refine lH t hJ (ad8 (i+1) (by omega) ?_);have:x∈l.take i:=by
      rw[<-he];exact List.mem_take_iff_getElem.2 ⟨k,by omega,rfl⟩
     rw[fu,aw this,bp,Bg]
    .rw[show(l[k]==x)=false from dX.2 he,af,Zc]
     refine j4 (i-(k+1)) _ _ (by omega) ⟨k+1,rfl,by omega,aO _,rfl,?_⟩;rw[mV iR];grind
   .rw[aD (show ¬(k:Int)<(i:Int) by omega),af]
    have:k=i:=by omega
    subst this;rw[aZ,Zb (Zi ax),dN.dF cZ];simp only[aX,DN];refine Ok.call (su (n+2) _ 2 (sA _) t) ?_;rintro _ ⟨s1,rfl,aH⟩;refine⟨_,s1,rfl,?_⟩;simp only[bO,aq];rw[ZY (by rw[sm,Zy,cV];omega),Zc];exact aQ (l.length-(k+1)) _ _ (by omega) ⟨k+1,by rw[HX];rfl,by omega,aO _,hJ.trans aH,by rw[fu,hb,aD oV];rfl⟩
 .rw[aD (show ¬(i:Int)<(l.length:Int) by omega),af]
  have:i=l.length:=by omega
  subst this;rw[sc];rw[cQ,ae]at hR;have dN:=sm l;refine Ok.call (zA (n+2) 6 l.length (iT l) (by omega) s) ?_;rintro _ ⟨s1,rfl,aH⟩;refine⟨_,s1,rfl,?_⟩;simp only[bO,aq,Zd];rw[<-hR];exact .mk ⟨s1,rfl,hJ.trans aH⟩
theorem O7 (n a e:Nat) (ha:a<100000) (he:0<e) (xa:e<1000) (st:St) (hn:a+10<=n:=by omega):
  Ok (λo=>o=(.val [.int .i64 (((a+e-1)/e:Nat):Int)],st)) (run Bd n 220 [.int .i64 (a:Int),.int .i64 (e:Int)] st):=by
 obtain⟨n,rfl⟩: ∃k,n=k+2:=⟨n-2,by omega⟩;rw[Ze,h.abK];unfold PA gK nM cH Li;simp only[av,aq,Za];have hm:(a+e-1)/e<=a:=by
  rcases zi a with h0|h0
  .subst h0
   rw[eW,Nat.div_eq_of_lt (by omega)];exact aO _
  .refine Nat.div_le_of_le_mul ?_
   have:1*(e-1)<=a*(e-1):=Dn _ h0;have h2:e*a=a+a*(e-1):=by
    obtain⟨f,rfl⟩: ∃f,e=f+1:=⟨e-1,by omega⟩;rw[Nat.add_sub_cancel,uK,Nat.one_mul,Bn f];omega
   omega
 have Mc: ∀k,k*e<a↔k<(a+e-1)/e:=λk=>by
  rw[Nat.lt_iff_add_one_le,Nat.lt_iff_add_one_le,Nat.le_div_iff_mul_le he,uK,Nat.one_mul];omega
 generalize (a+e-1)/e=m at hm Mc;refine Zj _ (λq y s=>∃k:Nat,y=[.int .i64 (k:Int)]/\k<=m/\m-k<=q/\s=st) ?_ m (n+1) _ _ (by grind) (by omega);rintro q _ s ⟨k,rfl,hk,hq,rfl⟩ rec aQ;simp only[av,aq];have hke:k*e<=100000*1000:=Nat.mul_le_mul (by omega) (by omega);have hw:ar ((k:Int)*(e:Int))=((k*e:Nat):Int):=by
  rw[show((k:Int)*(e:Int))=((k*e:Nat):Int) by push_cast;rfl];exact Zc
 rw[hw];have:=Mc k;by_cases ax:k*e<a
 .rw[aw (show((k*e:Nat):Int)<(a:Int) by omega),ae,Zc]
  exact aQ (m-(k+1)) _ _ (by omega) (by grind)
 .rw[aD (show ¬((k*e:Nat):Int)<(a:Int) by omega),af]
  have iR:k=m:=by
   omega
  rw[iR];simp only[Zd];exact .mk rfl
theorem ZiM (n a:Nat) (s g:Int) (ha:a<100000) (st:St) (hn:a+20<=n:=by omega):
  Ok (λo=>o=(.val [.int .i64 (((a+383)/384:Nat):Int)],st)) (run Bd n 196 [.agg [.int .i64 (a:Int),.int .i64 s,.int .i64 g]] st):=by
 obtain⟨n,rfl⟩: ∃k,n=k+2:=⟨n-2,by omega⟩;rw[Ze,h.abm];unfold Oj BK cM fW Li;rw[cG];simp only[av,aq];refine Ok.call (O7 (n+1) a 384 ha (by decide) (by decide) st) ?_;rintro _ rfl;refine⟨_,st,rfl,?_⟩;simp only[av,aq,Zd];exact .mk rfl
theorem ZiL (n a:Nat) (ha:a<100000) (st:St) (hn:a+20<=n:=by omega):
  Ok (λo=>o=(.val [.int .i64 (((a+6)/7:Nat):Int)],st)) (run Bd n 266 [.int .i64 (a:Int)] st):=by
 obtain⟨n,rfl⟩: ∃k,n=k+2:=⟨n-2,by omega⟩;rw[Ze,h.acv];unfold Oq cy cM fW Li;simp only[av,aq];refine Ok.call (O7 (n+1) a 7 ha (by decide) (by decide) st) ?_;rintro _ rfl;refine⟨_,st,rfl,?_⟩;simp only[av,aq,Zd];exact .mk rfl
def nY (a:Nat):Nat:=if a=0 then 0 else((a+6)/7+15)/16+1
theorem Zqm (n a:Nat) (ha:a<100000) (st:St) (hn:a+40<=n):
  Ok (λo=>o=(.val [.int .i64 (nY a:Int)],st)) (run Bd n 268 [.int .i64 (a:Int)] st):=by
 obtain⟨n,rfl⟩: ∃k,n=k+2:=⟨n-2,by omega⟩;rw[Ze,h.acx];unfold PB cy cM Li fW nY;simp only[av,aq];by_cases h0:a=0
 .subst h0
  rw[bG rfl];exact .mk rfl
 .rw[ba h0,show((a:Int)==0)=false from dX.2 (by omega),af]
  refine Ok.call (ZiL (n+1) a ha st) ?_;rintro _ rfl;refine⟨_,st,rfl,?_⟩;simp only[av,aq];refine Ok.call (O7 (n+1) ((a+6)/7) 16 (by omega) (by decide) (by decide) st) ?_;rintro _ rfl;refine⟨_,st,rfl,?_⟩;simp only[av,aq,Zd];refine .mk ?_;rw[Zc];rfl
theorem or8 {x:Nat} (hx:x<256) (hy:y<256):bits .or .u8 (x:Int) (y:Int)=((x|||y:Nat):Int):=by
 show IntKind.wrap .u8 ((BitVec.ofInt 8 (x:Int)|||BitVec.ofInt 8 (y:Int)).toNat:Int)=_;have e: ∀z:Nat,z<256->(BitVec.ofInt 8 (z:Int)).toNat=z:=by simp
 rw[BitVec.toNat_or,e x hx,e y hy];have h:x|||y<256:=by grind
 show((x|||y:Nat):Int)%256=_;omega
def wH (b:aj) (k:Nat):aj:=b.set (k/8) (UInt8.ofNat ((b.getD (k/8) 0).toNat|||2^(k%8)))
theorem J7 (b:aj) (k:Nat):(wH b k).length=b.length:=by simp[wH]
def inPlace (p:Nat) (x:Int):Bool:=decide (x>=((384*p:Nat):Int))&&decide (x<((384*p+384:Nat):Int))
def sH (p:Nat):aj->ak->aj
 |b,[]=>b
 |b,x::r=>sH p (bif inPlace p x then wH b (x-((384*p:Nat):Int)).toNat else b) r
def fN (p:Nat) (l:ak):ZL:=⟨p,sH p (List.replicate 48 0) l⟩
theorem Gu (p:Nat): ∀(l:ak) (b:aj),(sH p b l).length=b.length
 |[],_=>rfl
 |x::r,b=>by
  unfold sH;rw[Gu p r];cases inPlace p x with
  |true=>exact J7 b _
  |false=>rfl
theorem Zwc (b:aj) (k:Nat) (c:UInt8):bZ (b.set k c)=(bZ b).set k (.int .u8 c.toNat):=by
 simp[bZ]
theorem ZkL (n p:Nat) (l:ak) (a:ai) (z:Nat) (st:St) (hz:z=1\/a=none) (hs:Sl st a (ints l)) (hp:p<1000) (hl:l.length<100000) (hx: ∀x∈l,0<=x/\x<1000000) (hn:l.length+10<=n):
  Ok (λo=>o=(.val [.agg (ZS (fN p l))],st)) (run Bd n 192 [.int .i64 (p:Int),.slice z a l.length] st):=by
 obtain⟨n,rfl⟩: ∃k,n=k+2:=⟨n-2,by omega⟩;rw[Ze,h.abi];unfold PM cm cy Zn az mj Lb;simp only[av,Zf 1 z a _ hz,aq];rw[Za];have cD:ar (384*(p:Int))=((384*p:Nat):Int):=by
  rw[show(384*(p:Int))=((384*p:Nat):Int) by omega];exact Zc
 have fM:ar (((384*p:Nat):Int)+384)=((384*p+384:Nat):Int):=by
  rw[Zc];omega
 simp only[cD,fM];obtain⟨G,hG⟩: ∃G,sH p (List.replicate 48 0) l=G:=⟨_,rfl⟩;have hR:fN p l=⟨p,G⟩:=by unfold fN;rw[hG]
 rw[hR];refine Zj _ (λq y s=>∃(i:Nat) (b:aj),y=[.agg (.int .i64 (p:Int)::bZ b),.int .i64 (i:Int)]/\i<=l.length/\l.length-i<=q/\s=st/\b.length=48/\sH p b (l.drop i)=G) ?_ l.length (n+1) _ _ ⟨0,List.replicate 48 0,rfl,cE _,by omega,rfl,uH,hG⟩ (by omega);rintro q _ s ⟨i,b,rfl,hi,hq,rfl,hb,aN⟩ rec aQ;have iG:(bZ b).length=48:=by rw[Zt,hb]
 rw[cG];simp only[av,aq];rw[bD iG];by_cases ax:i<l.length
 .obtain⟨i1,o1,rfl⟩:=hs.cB (by simp[ints];omega)
  have cZ:(ints l)[i]? =some (.int .i64 l[i]):=ZA ax;have fE:l.drop i=l[i]::l.drop (i+1):=iC ax;have jc:l[i]∈l:=jP ax;rw[fE]at aN;obtain⟨x,ML⟩: ∃x,l[i]=x:=⟨_,rfl⟩;rw[ML]at cZ aN jc;obtain⟨MK,yN⟩:=hx x jc;unfold sH at aN;rw[aw (show(i:Int)<(l.length:Int) by omega),ae,aZ,Zb (Zi ax)];simp only[br];rw[hs.dF cZ];simp only[aX];have jI:ar ((i:Int)+1)=((i+1:Nat):Int):=Zc;rw[jI];refine Ok.join λaI jY=>?_
  have hA: ∀c,inPlace p x=c->Ok (λo=>o=(.val [.agg (ZS ⟨p,G⟩)],s)) (aI [.bool c] s):=by
   intro c hc;rw[jY];simp only[au,aq];rw[hc]at aN;rw[Za];cases c with
   |false=>
    rw[af]at aN;rw[af];show Ok _ (bj [.agg (.int .i64 (p:Int)::bZ b)] _ s);rw[cG];simp only[av];rw[bD iG];simp only[aq];exact aQ (l.length-(i+1)) _ _ (by omega) (by grind)
   |true=>
    rw[ae]at aN;unfold inPlace at hc;rw[aW,bC,bC]at hc;obtain⟨k,hk⟩: ∃k:Nat,x-((384*p:Nat):Int)=(k:Int):=by grind
    rw[hk,br]at aN;have rF:ar (x-((384*p:Nat):Int))=(k:Int):=by rw[hk];exact Zc
    have hdv:ar ((k:Int).tdiv 8)=((k/8:Nat):Int):=by
     rw[show(k:Int).tdiv 8=((k/8:Nat):Int)from rfl];exact Zc
    have kA:(k:Int).tmod 8=((k%8:Nat):Int):=rfl;rw[ae,aZ,Zb (Zi ax),hs.dF cZ];simp only[aX,rF,hdv,kA,br];have hk8:k/8<48:=by omega
    have yz:b[k/8]? =some (b.getD (k/8) 0):=by
     rw[dZ,cg (by omega)];rfl
    have LV:=(b.getD (k/8) 0).toNat_lt;rw[Zb (show aP ((k/8:Nat):Int) 48=true from Zi hk8),gW (i:=k/8*1) (by rw[cT];exact Sa yz)];simp only[aX];rw[Zb (aw (by omega)),Zb (show aP ((k/8:Nat):Int) 48=true from Zi hk8),ZY (by omega)];have h28:2^(k%8)<=2^7:=mX (by decide) (by omega);have Ir:IntKind.wrap .u8 (1*2^(min (k%8) 8))=((2^(k%8):Nat):Int):=by
     rw[mW (by omega),Int.one_mul,show((2:Int)^(k%8))=((2^(k%8):Nat):Int) by push_cast;rfl];generalize 2^(k%8)=w at h28;show((w:Nat):Int)%256=_;omega
    rw[Ir,or8 LV (by omega)];have hor:(b.getD (k/8) 0).toNat|||2^(k%8)<256:=Nat.or_lt_two_pow (n:=8) LV (by omega);have db:cq (bZ b) (k/8*1) [.int .u8 (((b.getD (k/8) 0).toNat|||2^(k%8):Nat):Int)]=bZ (wH b k):=by
     rw[cT,BV _ _ _ (by omega)];unfold wH;rw[Zwc];congr 2;show _=(((((b.getD (k/8) 0).toNat|||2^(k%8))%256:Nat)):Int);omega
    rw[db];show Ok _ (bj [.agg (.int .i64 (p:Int)::bZ (wH b k))] _ s);rw[cG];simp only[av];have Fa:(bZ (wH b k)).length=48:=by rw[Zt,J7,hb]
    rw[bD Fa];simp only[aq];exact aQ (l.length-(i+1)) _ _ (by omega) ⟨i+1,wH b k,rfl,by omega,aO _,rfl,by rw[J7,hb],aN⟩
  cases sU:decide (x>=((384*p:Nat):Int))with
  |false=>
   rw[af];exact hA false (by unfold inPlace;rw[sU,fP])
  |true=>
   rw[ae,aZ,Zb (Zi ax),hs.dF cZ];simp only[aX];exact hA _ (by unfold inPlace;rw[sU,dx])
 .rw[aD (show ¬(i:Int)<(l.length:Int) by omega),af]
  rw[ke (by omega)]at aN;rw[cG];simp only[av];rw[bD iG];simp only[aq];rw[bD (by simp[iG]),Zd];refine .mk ?_;rw[<-aN];rfl
def si (x:ZL):aj:=iz 4 x.no x.eF
theorem ZlR (n:Nat) (x:ZL) (hl:x.eF.length=48) (st:St) (hn:400<=n:=by omega):
  Ok (λo=>∃s',o=(.val [.str (si x)],s')/\aC st s') (run Bd n 193 [.agg (ZS x)] st):=by
 obtain⟨n,rfl⟩: ∃k,n=k+2:=⟨n-2,by omega⟩;rw[Ze,h.abj];unfold PT Zm iM oH Ls ZS;have iG:(bZ x.eF).length=48:=by rw[Zt,hl]
 rw[cG];simp only[av];rw[bD iG];simp only[aq];rw[bD (n:=49) (by simp[iG]),Zz];rw[Zo (i:=st.length) (f:=false) (all:= .int .i64 x.no::bZ x.eF) (d:= .int .i64 x.no) (by simp) rfl];simp only[aX];have cQ:(DV.int .i64 x.no::bZ x.eF).length=49:=by simp[iG]
 rw[GO (by rw[cQ];omega),GO (by rw[cQ];omega)];have EM:(List.drop 1 (DV.int .i64 x.no::bZ x.eF)).take 48=ZW x.eF:=by
  rw[List.drop_succ_cons,dA,dH (by omega),ly]
 rw[EM,nK];refine Ok.call (zA (n+1) 4 x.no x.eF (by omega) _) ?_;rintro _ ⟨s1,rfl,aH⟩;refine⟨_,s1,rfl,?_⟩;simp only[bO,aq,Zd];exact .mk ⟨s1,rfl,(aC.new _ _).trans aH⟩
structure pK (x:dY):Prop where
 s0:1<=x.seq
 s1:x.seq<=4611686018427387904
 g:oa x.blocks x.cJ x.g=true
 u0:0<=x.used
 u1:x.used<=x.cJ
 f0:0<=x.free
 f1:x.free<=x.used
 t0:x.used=0->x.bY=0
 t1:0<x.used->mN x x.bY=true
 d:x.dir≠0->mN x x.dir=true
 len:((x.aL.length:Nat):Int)=yc x.blocks x.cJ x.g
 ch: ∀i,i<x.aL.length->mN x (x.aL.getD i 0)=true/\x.aL.getD i 0∉x.aL.take i
theorem ZrI (x:dY):pL x=true↔ ∀i,i<x.aL.length->mN x (x.aL.getD i 0)=true/\x.aL.getD i 0∉x.aL.take i:=by
 simp[pL]
theorem zH (x:dY):iN x=true↔pK x:=by
 unfold iN;rw[aW,aW,ZrI,lL,lL];simp only[Bh,wg,Bool.not_eq_false'];constructor
 .rintro⟨⟨a1,a2,a3,a4,a5,a6,a7⟩,⟨b1,b2,b3,b4⟩,c⟩
  refine⟨by omega,by omega,a3,by omega,by omega,by omega,by omega,λh=>?_,λh=>?_,λh=>?_,?_,c⟩
  .rw[h]at b1
   simpa using b1
  .rw[aw h,ae]at b2
   simpa using b2
  .rw[show(x.dir==0)=false from dX.2 h,bm,ae]at b3
   simpa using b3
  .simpa using b4
 .intro h
  refine⟨⟨by have:=h.s0;omega,by have:=h.s1;omega,h.g,by have:=h.u0;omega,by have:=h.u1;omega,by have:=h.f0;omega,by have:=h.f1;omega⟩,⟨?_,?_,?_,?_⟩,h.ch⟩
  .by_cases hu:x.used=0
   .rw[h.t0 hu];cases(x.used==0)<;>rfl
   grind
  .by_cases hu:0<x.used
   .rw[h.t1 hu];cases decide (x.used>0)<;>rfl
   grind
  .by_cases hu:x.dir=0
   .rw[hu];rfl
   .rw[h.d hu];cases(!(x.dir==0))<;>rfl
  simp[h.len]
theorem RS (x:dY) (k:Int):mN x k=true↔2<=k/\k<x.blocks:=by
 simp[mN]
theorem Znn {b s g:Int} (h:oa b s g=true):yc b s g=(((b.toNat+383)/384:Nat):Int):=by
 obtain⟨g1,g2,_⟩:=Z2 h;unfold yc pD;rw[h,ae];obtain⟨m,rfl⟩: ∃m:Nat,b=m:=⟨b.toNat,by omega⟩;rw[br,Zc (x:=(m:Int)+384),Zc (x:=(m:Int)+384-1),show((m:Int)+384-1)=((m+383:Nat):Int) by omega,show(((m+383:Nat):Int).tdiv 384)=(((m+383)/384:Nat):Int)from rfl];exact Zc
theorem ZwI {Q:Out ah×St->Prop} {Kn:ah->M ah} (n:Nat) (b:Int) (l:ak) (p:ai) (s:St) (hs:Sl s p (ints l)) (hl:l.length<5000) (hn:l.length<n)
  (cA: ∀k∈l,¬(2<=k/\k<b)->Ok Q ((ay [.bool false]:M ah) s)) (Ym:(∀k∈l,2<=k/\k<b)->Ok Q (Kn [] s)):
  Ok Q (cW (λaU st=>
       aF .i64 st λi st=>
      aJ st<|
      bif decide (i<(l.length:Int))then
       bJ p λi1 o=>
      aB (aP i l.length)<|
      bF i1 (i.toNat*1+o) λd=>
      cP .i64 d λx=>
      cI (λst=>gP st λb7 st=>aJ st<|
       bif b7 then
       ay [.bool false]
      else
       aU [.int .i64 (ar (i+1))]) λj7=>
      bif decide (x<2)then
       j7 [.bool true]
      else
       bJ p λi2 o1=>
      aB (aP i l.length)<|
      bF i2 (i.toNat*1+o1) λd1=>
      cP .i64 d1 λx1=>
      j7 [.bool (decide (x1>=b))]
      else
       Kn []) n [.int .i64 0] s):=by
 refine Zj _ (λq y t=>∃i:Nat,y=[.int .i64 (i:Int)]/\i<=l.length/\l.length-i<=q/\t=s/\∀k∈l.take i,2<=k/\k<b) ?_ l.length n _ _ (by grind) hn;rintro q _ t ⟨i,rfl,hi,hq,rfl,cQ⟩ rec aQ;simp only[av,aq];by_cases ax:i<l.length
 .obtain⟨i1,o1,rfl⟩:=hs.cB (by simp[ints];omega)
  have cZ:(ints l)[i]? =some (.int .i64 l[i]):=ZA ax;have fZ:l.take (i+1)=l.take i++[l[i]]:=mV ax;have jc:l[i]∈l:=jP ax;rw[aw (show(i:Int)<(l.length:Int) by omega),ae,aZ,Zb (Zi ax)];simp only[br];rw[hs.dF cZ];simp only[aX];generalize l[i]=x at cZ fZ jc;rw[Za];by_cases h2:x<2
  .rw[aw h2,ae]
   simp only[au,aq,ae];grind
  .rw[aD h2,af,aZ,Zb (Zi ax),hs.dF cZ]
   simp only[aX,au,aq];by_cases h3:x>=b
   .rw[aw h3,ae]
    grind
   .rw[aD h3,af,Zc]
    refine aQ (l.length-(i+1)) _ _ (by omega) ⟨i+1,rfl,by omega,aO _,rfl,λk hk=>?_⟩;rw[fZ]at hk;grind
 .rw[aD (show ¬(i:Int)<(l.length:Int) by omega),af]
  rw[dH (by omega)]at cQ;exact Ym cQ
theorem Om (n:Nat) (x:dY) (p:ai) (st:St) (hs:Sl st p (ints x.aL)) (hl:x.aL.length<1000) (hn:5000<=n:=by omega):
  Ok (λo=>∃s',o=(.val [.bool (iN x)],s')/\aC st s') (run Bd n 195 [.agg (dO x p)] st):=by
 obtain⟨n,rfl⟩: ∃k,n=k+2:=⟨n-2,by omega⟩;rw[Ze,h.abl];unfold PR ZZ az fX Q_ cH Zn lu mh aY Lb Li eU bE tP dO;rw[cG];simp only[av,bd,aq];have hF: ∀s,aC st s->¬pK x->Ok (λo=>∃s',o=(.val [.bool (iN x)],s')/\aC st s') ((ay [.bool false]:M ah) s):=λs hp e=>by
  have:iN x=false:=by
   cases hs:iN x with
   |false=>rfl
   |true=>exact absurd ((zH x).1 hs) e
  rw[this,Zd];exact .mk ⟨s,rfl,hp⟩
 rw[Za];by_cases h1:x.seq<1
 .rw[aw h1,ae]
  simp only[au,aq];rw[Za,ae];simp only[au,aq];rw[ae];exact hF st (.refl st) λk=>by have:=k.s0;omega
 rw[aD h1,af];simp only[au,aq];rw[Za];by_cases h2:x.seq>4611686018427387904
 .rw[aw h2,ae]
  simp only[au,aq];rw[ae];exact hF st (.refl st) λk=>by have:=k.s1;omega
 rw[aD h2,af,Zk (Zjw n x.blocks x.cJ x.g st)];simp only[au,aq];cases hg:oa x.blocks x.cJ x.g with
 |false=>
  rw[bm,ae];exact hF st (.refl st) λk=>by have:=k.g;rw[hg]at this;cases this
 |true=>
 obtain⟨g1,g2,g3,g4,g5,g6⟩:=Z2 hg;rw[bp,af,Za];by_cases h3:x.used<0
 .rw[aw h3,ae]
  simp only[au,aq];rw[Za,ae];simp only[au,aq];rw[Za,ae];simp only[au,aq];rw[Za,ae];simp only[au,aq];rw[ae];exact hF st (.refl st) λk=>by have:=k.u0;omega
 rw[aD h3,af];by_cases h4:x.used>x.cJ
 .rw[aw h4]
  simp only[au,aq];rw[Za,ae];simp only[au,aq];rw[Za,ae];simp only[au,aq];rw[Za,ae];simp only[au,aq];rw[ae];exact hF st (.refl st) λk=>by have:=k.u1;omega
 rw[aD h4];simp only[au,aq];rw[Za,af];by_cases h5:x.free<0
 .rw[aw h5]
  simp only[au,aq];rw[Za,ae];simp only[au,aq];rw[Za,ae];simp only[au,aq];rw[ae];exact hF st (.refl st) λk=>by have:=k.f0;omega
 rw[aD h5];simp only[au,aq];rw[Za,af];by_cases h6:x.free>x.used
 .rw[aw h6]
  simp only[au,aq];rw[Za,ae];simp only[au,aq];rw[ae];exact hF st (.refl st) λk=>by have:=k.f1;omega
 rw[aD h6];simp only[au,aq];rw[Za,af];obtain⟨m,hm⟩: ∃m:Nat,x.blocks=m:=⟨x.blocks.toNat,by omega⟩;have ub:=Znn hg;rw[hm,br]at ub;rw[hm];refine Ok.Af (ZiM (n+1) m x.cJ x.g (by omega) st) ?_;rintro _ rfl;refine⟨_,st,rfl,?_⟩;simp only[av,au,aq];by_cases h7:((x.aL.length:Nat):Int)=(((m+383)/384:Nat):Int);rotate_left
 .rw[show(((x.aL.length:Nat):Int)==(((m+383)/384:Nat):Int))=false from dX.2 h7,bm,ae]
  exact hF st (.refl st) λk=>by have:=k.len;rw[hm,ub]at this;exact h7 this
 rw[show(((x.aL.length:Nat):Int)==(((m+383)/384:Nat):Int))=true by rw[h7];simp,bp,af];have fu: ∀k,mN x k=true↔2<=k/\k<(m:Int):=λk=>by rw[RS,hm]
 refine Ok.join λfS UL=>?_
 have A7: ∀(q:ai) (z:Nat) (l:ak) (s:St),bn st s q (ints l)->(z=1\/q=none)->l.length<=1->(x.used=0->x.bY=0)->(l=if x.used=0 then[]else[x.bY])->Ok (λo=>∃s',o=(.val [.bool (iN x)],s')/\aC st s') (fS [.slice z q l.length] s):=by
  intro q z l s ho hz oj Fm hle;rw[UL];simp only[Zf 1 z q _ hz,aq];refine Ok.join λgG UM=>?_
  have A8: ∀(q:ai) (l:ak) (s:St),bn st s q (ints l)->l.length<=2->(l=(if x.used=0 then[]else[x.bY])++(if x.dir=0 then[]else[x.dir]))->Ok (λo=>∃s',o=(.val [.bool (iN x)],s')/\aC st s') (gG [.slice 1 q l.length] s):=by
   intro q l s ho nu hle;rw[UM];simp only[bd,aq];refine Ok.join λgH Mf=>?_
   have adB: ∀i k,i<x.aL.length->k<i->x.aL[k]? =x.aL[i]? ->¬pK x:=λi k hi hk e hS=>by
    have:=(hS.ch i hi).2;rw[dZ,cg hi]at this;refine this (List.mem_take_iff_getElem.2 ⟨k,by omega,?_⟩);rw[cg (by omega),cg hi]at e;exact Dq e
   refine Zj _ (λr y t=>∃(i z:Nat) (q:ai),y=[.slice z q (l++x.aL.take i).length,.int .i64 (i:Int)]/\(z=1\/q=none)/\i<=x.aL.length/\x.aL.length-i<=r/\bn st t q (ints (l++x.aL.take i))/\∀j,j<i->x.aL.getD j 0∉x.aL.take j) ?_ x.aL.length (n+1) _ _ ⟨0,1,q,by simp,.inl rfl,cE _,by omega,by simpa using ho,by omega⟩ (by omega);rintro r _ t ⟨i,z,q,rfl,hz,hi,hr,ho,L5⟩ rec aQ;simp only[av,Zf 1 z q _ hz,aq];have cc:=hs.mono ho.1;by_cases ax:i<x.aL.length
   .obtain⟨i1,o1,rfl⟩:=hs.cB (by simp[ints];omega)
    have cZ:(ints x.aL)[i]? =some (.int .i64 x.aL[i]):=ZA ax;have fZ:x.aL.take (i+1)=x.aL.take i++[x.aL[i]]:=mV ax;rw[aw (by omega),ae,Za,aZ,Zb (Zi ax)];simp only[br];rw[cc.dF cZ];simp only[aX];have gS:(l++x.aL.take i).length<=2000:=by rw[bA,cV];omega
    obtain⟨q2,t2,df,qf,he⟩:=ho.Bc (β:=ah) (sz:=1) (n:=(l++x.aL.take i).length) (lim:=8796093022208) [.int .i64 x.aL[i]] (we 0) (by simp[ints]) rfl (by omega);refine Eq.mpr (congrArg (Ok _) (he _)) ?_;rw[Za];have It:=hs.mono df.1;refine Zj _ (λq y u=>∃k:Nat,y=[.int .i64 (k:Int)]/\k<=i/\i-k<=q/\u=t2/\x.aL[i]∉x.aL.take k) ?_ i (n+1) _ _ ⟨0,rfl,cE _,by omega,rfl,by simp⟩ (by omega);rintro r2 _ u ⟨k,rfl,hk,jH,rfl,oV⟩ dt j4;simp only[av,aq];by_cases hlk:k<i
    .have iR:k<x.aL.length:=by omega
     have uf:(ints x.aL)[k]? =some (.int .i64 x.aL[k]):=ZA iR;rw[aw (by omega),ae,aZ,Zb (Zi iR)];simp only[br];rw[It.dF uf];simp only[aX];rw[aZ,Zb (Zi ax),It.dF cZ];simp only[aX];by_cases he:x.aL[k]=x.aL[i]
     .rw[show(x.aL[k]==x.aL[i])=true by rw[he];exact Bo _,ae]
      exact hF u df.1 (adB i k ax hlk (by rw[cg iR,cg ax,he]))
     .rw[show(x.aL[k]==x.aL[i])=false from dX.2 he,af,Zc]
      refine j4 (i-(k+1)) _ _ (by omega) ⟨k+1,rfl,by omega,aO _,rfl,?_⟩;rw[mV iR];intro kB;rcases gU.1 kB with kB|kB
      .exact oV kB
      .exact he (cx.1 kB).symm
    .rw[aD (by omega),af]
     have:k=i:=by omega
     subst this;simp only[bd,aq];rw[Zc];refine aQ (x.aL.length-(k+1)) _ _ (by omega) ⟨k+1,1,q2,?_,.inl rfl,by omega,aO _,?_,λj hj=>?_⟩
     .rw[fZ,<-fA,bA (as:=l++x.aL.take k)];rfl
     .rw[fZ,<-fA]
      unfold ints at df⊢;rw[fB (l₁:=l++x.aL.take k)];exact df
     .by_cases uh:j=k
      .subst uh
       rw[dZ,cg ax];exact oV
      .exact L5 j (by omega)
   .rw[aD (by omega),af]
    have:i=x.aL.length:=by omega
    subst this;rw[sc]at ho⊢;rw[Mf];simp only[bd,aq];refine Ok.join λjJ UJ=>?_
    refine ZwI (Kn:=jJ) (n+1) m (l++x.aL) q t ho.sl (by rw[bA];omega) (by rw[bA];omega) ?_ ?_
    .intro k hk EJ
     refine hF t ho.1 λhS=>EJ ?_
     rw[<-fu];rcases gU.1 hk with hk|hk
     .rw[hle]at hk
      rcases gU.1 hk with hk|hk
      .by_cases hu:x.used=0
       .rw[bG hu]at hk;cases hk
       .rw[ba hu]at hk;rw[cx.1 hk];exact hS.t1 (by omega)
      .by_cases hu:x.dir=0
       .rw[bG hu]at hk;cases hk
       .rw[ba hu]at hk;rw[cx.1 hk];exact hS.d hu
     .obtain⟨i,hi,rfl⟩:=List.mem_iff_getElem.1 hk
      have:=(hS.ch i hi).1;rw[dZ,cg hi]at this;exact this
    .intro cQ
     have:iN x=true:=by
      refine(zH x).2 ⟨by omega,by omega,hg,by omega,by omega,by omega,by omega,Fm,λhu=>?_,λhu=>?_,by rw[hm,ub];exact h7,λi hi=>⟨?_,L5 i hi⟩⟩
      .rw[fu]
       exact cQ _ (gU.2 (.inl (by rw[hle,ba (by omega)];simp)))
      .rw[fu]
       exact cQ _ (gU.2 (.inl (by rw[hle,ba hu];simp)))
      .rw[fu,dZ,cg hi]
       exact cQ _ (gU.2 (.inr (jP hi)))
     rw[UJ];simp only[aq];rw[this,Zd];exact .mk ⟨t,rfl,ho.1⟩
  by_cases Cn:x.dir=0
  .rw[show(!(x.dir==0))=false by rw[Cn];rfl,af]
   grind
  .rw[show(!(x.dir==0))=true by rw[lL];grind,ae]
   obtain⟨q2,t2,df,qf,he⟩:=ho.Bc (β:=ah) (sz:=1) (n:=l.length) (lim:=8796093022208) [.int .i64 x.dir] (we 0) (by simp[ints]) rfl (by omega);refine Eq.mpr (congrArg (Ok _) (he _)) ?_;have:=A8 q2 (l++[x.dir]) t2 (by unfold ints at df⊢;rw[fB];exact df) (by simp;omega) (by rw[ba Cn,<-hle]);rw[bA]at this;exact this
 by_cases vF:x.used=0
 .rw[show(x.used==0)=true by rw[vF];rfl,ae]
  by_cases hfn:x.bY=0
  .rw[show(!(x.bY==0))=false by rw[hfn];rfl,af]
   exact A7 none 0 [] st (bn.nil (.refl st)) (.inr rfl) (by simp) (λ_=>hfn) (by rw[bG vF])
  .rw[show(!(x.bY==0))=true by rw[lL];grind,ae]
   exact hF st (.refl st) λk=>hfn (k.t0 vF)
 .rw[show(x.used==0)=false from dX.2 vF,af]
  obtain⟨q2,t2,df,qf,he⟩:=(bn.nil (.refl st)).Bc (β:=ah) (sz:=1) (n:=0) (lim:=8796093022208) [.int .i64 x.bY] (we 0) rfl rfl (by omega);refine Eq.mpr (congrArg (Ok _) (he _)) ?_;exact A7 q2 1 [x.bY] t2 df (.inl rfl) (by simp) (λe=>absurd e vF) (by rw[ba vF])
theorem Zx0 (k m:Nat) (hk:k<64) (h:2^k*(2*m+1)<18446744073709551616):bits .and .u64 ((2^k*(2*m+1):Nat):Int) (IntKind.wrap .u64 (0-((2^k*(2*m+1):Nat):Int)))=((2^k:Nat):Int):=by
 have hp:0<2^k*(2*m+1):=by grind
 have hn:=Zxa k m 64 hk (by omega);generalize 2^k*(2*m+1)=w at h hp hn⊢;have e:IntKind.wrap .u64 (0-(w:Int))=((2^64-w:Nat):Int):=by
  show(0-(w:Int))%18446744073709551616=_;omega
 rw[e,ZvM h,hn]
def FC (k:Nat):Nat:=(2^k*285870213051353865%18446744073709551616)/288230376151711744
def Wz (d:Option DV) (k:Nat):Bool:=match d with
 |some (.int .u8 n)=>n==(k:Int)
 |_=>false
theorem Zxb {d:Option DV} (h:Wz d k=true):d=some (.int .u8 (k:Int)):=by
 unfold Wz at h;grind
theorem Zvm: ∀k,k<64->FC k<64/\Wz (Nf[FC k]?) k=true:=by decide+kernel
theorem ZxS (k:Nat) (h:k<64):FC k<64/\Nf[FC k]? =some (.int .u8 (k:Int)):=⟨(Zvm k h).1,Zxb (Zvm k h).2⟩
theorem Zwp (x c:Nat):(IntKind.wrap .u64 ((x:Int)*((c:Nat):Int))).fdiv (2^58)=((x*c%18446744073709551616/288230376151711744:Nat):Int):=by
 have e1:((x:Int)*((c:Nat):Int))=((x*c:Nat):Int):=by push_cast;rfl
 have e2:(2:Int)^58=((288230376151711744:Nat):Int):=by decide
 rw[e1,Zw8,e2,Ea]
theorem YW:NH Bd:=by
 intro n k m st ht hk hw;rw[Ze,h.e86];have hand:=Zx0 k m hk hw;have hp:0<2^k*(2*m+1):=by grind
 generalize 2^k*(2*m+1)=w at hand hp hw;obtain⟨h1,h2⟩:=ZxS k hk;have Ir:(IntKind.wrap .u64 (((2^k:Nat):Int)*285870213051353865)).fdiv (2^58)=((FC k:Nat):Int):=Zwp (2^k) 285870213051353865;unfold F5 Tx;simp only[av,aq];rw[hand,Ir,show((w:Int)==0)=false from dX.2 (by omega),af,Zb (show aP ((FC k:Nat):Int) 64=true from Zi h1),br,cT,gV];rw[Zo (i:=2) (f:=true) (all:=Nf) (d:= .int .u8 (k:Int)) (ht 2 _ rfl) h2];simp only[aX,Zd];rw[Zc]
end Go.Gv.F
