/- States alike: the program's own comparison. -/
import Derived.Test.YtegglibipjjblaaGreatDoorGvZMc
set_option linter.all false
namespace Go.Gv.F
open Go.Gv
variable {β:Type}
variable {f g:Bool} {i i2 j j2 k m m2 o y:Nat} {V W:al}
def ZwF {s:St} {ds:ah} {xs:List dO} {x:dO} (hs:Sl s (some (i,o)) ds) (hh:kA s ds xs) (e:xs[j]? =some x): ∃z p,(z=4\/p=none)/\Sl s p (bY x.cj)/\∀K:ah->M β,bS i (j*2+o) 2 K s=K (mj x z p) s:=by
 obtain⟨z,p,hz,h1,_,_,h2⟩:=hh.get e;have hj:j<xs.length:=by grind
 exact⟨z,p,hz,h2,λK=>by rw[hs.yi (k:=j*2) (n:=2) (by rw[hh.len];omega) K,h1]⟩
def wa (w j:Nat):eE w j=w.testBit j:=by rw[Nat.testBit_eq_decide_div_mod_eq];rfl
def ZuB: ∀(w:Nat),0<w->∃k m,w=2^k*(2*m+1)
 |0,h=>absurd h (by decide)
 |w+1,_=>by
  by_cases h:(w+1)%2=1
  .exact⟨0,(w+1)/2,by omega⟩
  .obtain⟨k,m,e⟩:=ZuB ((w+1)/2) (by omega)
   exact⟨k+1,m,by rw[uw,Nat.mul_right_comm,<-e];omega⟩
termination_by w=>w
decreasing_by omega
def zJ (k a j:Nat):(2^k*a).testBit j=(decide (k<=j)&&a.testBit (j-k)):=by
 rw[Nat.testBit_two_pow_mul]
def IA (m i:Nat):(2*m+1).testBit i=(decide (i=0)||(2*m).testBit i):=by
 cases i with
 |zero=>simp[Nat.testBit_zero]
 |succ i=>
  rw[Nat.testBit_succ,Nat.testBit_succ,show(2*m+1)/2=m by omega,show 2*m/2=m by omega];simp
def ZqP (m:Nat):(2*m).testBit 0=false:=by simp[Nat.testBit_zero]
def DC (k a b j:Nat) (h:b<2^k):(2^k*a+b).testBit j=if j<k then b.testBit j else a.testBit (j-k):=by
 rw[Nat.testBit_two_pow_mul_add a h]
def ZxI (k m:Nat):2^k*(2*m+1)&&& (2^k*(2*m+1)-1)=2^k*(2*m):=by
 have hp:0<2^k:=Nat.two_pow_pos k;have e:2^k*(2*m+1)-1=2^k*(2*m)+(2^k-1):=by rw[Nat.mul_add,cR];omega
 rw[e];refine C8 λj=>?_
 rw[HB,zJ,DC k _ _ j (by omega),zJ];by_cases hj:j<k
 .rw[aF (by omega)];simp
 grind[IA,ZqP]
def Zze (k m n:Nat) (hk:k<n) (h:2^k*(2*m+1)<2^n):2^k*(2*m+1)&&& (2^n-2^k*(2*m+1))=2^k:=by
 have hn:2^n=2^k*(2*2^(n-k-1)):=by rw[<-Nat.pow_succ',<-Nat.pow_add];congr 1;omega
 rw[hn]at h⊢;have hm:2*m+1<2*2^(n-k-1):=Nat.lt_of_mul_lt_mul_left h;have fu:m<2^(n-k-1):=by omega
 rw[<-Nat.mul_sub,show 2*2^(n-k-1)-(2*m+1)=2*(2^(n-k-1)-(m+1))+1 by omega];refine C8 λj=>?_
 rw[HB,zJ,zJ,Nat.testBit_two_pow,IA,IA];by_cases hj:k<=j
 .rw[ax hj]
  by_cases h0:j=k
  .subst h0;simp
  .rw[aF (show ¬k=j by omega),aF (show ¬j-k=0 by omega)]
   obtain⟨i,hi⟩: ∃i,j-k=i+1:=⟨j-k-1,by omega⟩;rw[hi,Nat.testBit_succ,Nat.testBit_succ,Nat.mul_div_cancel_left _ (by decide),Nat.mul_div_cancel_left _ (by decide),Nat.testBit_two_pow_sub_succ fu];cases m.testBit i<;>simp
 grind
def oh (w:Nat):al:=(List.range 64).filter (eE w)
def ZvD:oh 0=[]:=by
 rfl
def Zxx (k n:Nat) (h:k<n):List.range n=List.range k++k::List.range' (k+1) (n-k-1):=by
 have:n=k+(1+(n-k-1)):=by omega
 rw[List.range_eq_range',List.range_eq_range']
 conv=>lhs;rw[this]
 rw[<-List.range'_append_1,tk 1,Lm,eW]
def Zvq (k m:Nat) (hk:k<64):oh (2^k*(2*m+1))=k::oh (2^k*(2*m)):=by
 unfold oh;rw[Zxx k 64 hk,EV,EV,List.filter_cons,List.filter_cons];have h1: ∀a,(List.range k).filter (eE (2^k*a))=[]:=λa=>by
  rw[List.filter_eq_nil_iff];grind[wa,zJ]
 have h2:eE (2^k*(2*m+1)) k=true:=by rw[wa,zJ,IA];simp
 have h3:eE (2^k*(2*m)) k=false:=by rw[wa,zJ,Bi,ZqP];simp
 rw[h1,h1,h2,h3,bE rfl,bj (by decide),jG,jG];refine congrArg (k:: ·) (List.filter_congr λj hj=>?_);rw[wa,wa,zJ,zJ,IA,aF (show ¬j-k=0 by have:=List.mem_range'_1.1 hj;omega)];rfl
def MK (w:Nat):(oh w).length<=64:=by
 have:=List.length_filter_le (eE w) (List.range 64);rw[List.length_range]at this;exact this
def uT:Nat->al->ak
 |_,[]=>[]
 |b,w::r=>(oh w).map (λj=>((b*64+j:Nat):Int))++uT (b+1) r
def dq (W:al):ak:=uT 0 W
def Zot: ∀(b:Nat) (W:al),(uT b W).length<=64*W.length
 |_,[]=>aQ _
 |b,w::r=>by
  unfold uT;have:=Zot (b+1) r;have:=MK w;rw[bB,nQ,cO];omega
def Zpw: ∀(b:Nat) (W:al) (w:Nat),uT b (W++[w])=uT b W++(oh w).map (λj=>(((b+W.length)*64+j:Nat):Int))
 |b,[],w=>by simp[uT]
 |b,x::r,w=>by
  rw[nP];unfold uT;rw[Zpw (b+1) r w,fI,cO,Nat.add_right_comm b 1,uv b]
def ZvZ (W:al) (h:i<W.length):dq (W.take (i+1))=dq (W.take i)++(oh W[i]).map (λj=>((i*64+j:Nat):Int)):=by
 unfold dq;rw[lV h,Zpw,cX,nS (by omega),eW]
def P1 (Bd:Zh):Prop:=∀(n k m:Nat) (st:St),sa st->k<64->2^k*(2*m+1)<18446744073709551616->run Bd (n+1) 86 [.int .u64 ((2^k*(2*m+1):Nat):Int)] st=some (.val [.int .i64 (k:Int)],st)
def Zxl {a b:Nat} (ha:a<18446744073709551616) (hb:b<18446744073709551616:=by omega):bits .and .u64 (a:Int) (b:Int)=((a&&& b:Nat):Int):=DW ha hb
def Rx (W:al) (i:Nat):(dq (W.take i)).length<=64*W.length:=by
 have h1:=Zot 0 (W.take i);grind[dq]
variable {Bd:Zh} [h:HA Bd]
def ZmL (hz:P1 Bd) (n:Nat) (st:St) (ht:sa st) (hs:gy st f i j m W) (hn:80<=n:=by omega):
  Ok (λo=>∃p s',o=(.val [.slice 1 p (dq W).length],s')/\aB st s'/\Sl s' p (ints (dq W))/\∀b∈aO p,st.length<=b) (run Bd n 172 [.ptr (some (i,0))] st):=by
 obtain⟨n,rfl⟩: ∃k,n=k+2:=⟨n-2,by omega⟩;rw[Ze,h.aei];unfold Qx jh fB kb wb cw aZ dY kZ Li iw;simp only[eH,aq,bd];rw[Zo hs.hd rfl];simp only[j9,Za];have hle:=hs.le;have hlen:=hs.len;refine Zi _ (λq y s=>∃(a z:Nat) (p:ai),y=[.slice z p (dq (W.take a)).length,.int .i64 a]/\(z=1\/p=none)/\a<=W.length/\W.length-a<=q/\bm st s p (ints (dq (W.take a)))) ?_ W.length (n+1) _ _ ⟨0,0,none,rfl,.inr rfl,cz _,by omega,bm.nil (.refl st)⟩ (by omega);rintro q _ s ⟨a,z,p,rfl,Yq,ha,hq,ho⟩ rec aN;simp only[av,Zg 1 z p _ Yq,aq];have eX:=hs.pre ho.1;by_cases aw:a<W.length
 .rw[ax (show(a:Int)<(W.length:Int) by omega),ae,bd,Zb (Zj aw),bp]
  have ox:=hs.lt _ (kz aw);rw[Zo (d:= .int .u64 (W[a]:Nat)) eX.wd (by rw[cR,gV];simp[Zv,aw])];simp only[bg];have ue:=ZvZ W aw;have hA:=Rx W a;generalize dq (W.take a)=A at ho ue hA;generalize W[a]=w at ox ue;have cG:ar ((a:Int)+1)=((a+1:Nat):Int):=Zc;have fR:ar ((a:Int)*64)=((a*64:Nat):Int):=by rw[Zc];omega
  simp only[cG,fR];obtain⟨F,hF⟩: ∃F:Nat->Int,(λj=>((a*64+j:Nat):Int))=F:=⟨_,rfl⟩;rw[hF]at ue;refine Zi _ (λq' y t=>∃(w' z':Nat) (D:al) (p':ai),y=[.slice z' p' (A++D.map F).length,.int .u64 (w':Int)]/\(z'=1\/p'=none)/\w'<18446744073709551616/\D++oh w'=oh w/\(oh w').length<=q'/\bm st t p' (ints (A++D.map F))) ?_ 64 (n+1) _ _ ⟨w,1,[],p,by rw[List.map_nil,gz],.inl rfl,ox,rfl,MK w,by rw[List.map_nil,gz];exact ho⟩ (by omega);rintro q' _ t ⟨w',z',D,p',rfl,aiR,ab6,hD,sL,ub⟩ dw j3;simp only[av,Zg 1 z' p' _ aiR,aq];by_cases yG:w'=0
  .subst yG
   rw[show(!(((0:Nat):Int)==0))=false from rfl,af];simp only[aX,aq];rw[ZvD,gz]at hD;rw[hD,<-ue]at ub⊢;exact aN (W.length-(a+1)) _ _ (by omega) ⟨a+1,1,p',rfl,.inl rfl,by omega,aQ _,ub⟩
  .have hnz:(!((w':Int)==0))=true:=by rw[lD,eG];omega
   obtain⟨k,m',e⟩:=ZuB w' (by omega);have hk:k<64:=by
    rcases jH k 64 with h|h
    .exact h
    .have h1:2^64<=2^k:=nT (by decide) h
     have h2:2^k*1<=2^k*(2*m'+1):=Nat.mul_le_mul_left _ (by omega);omega
   rw[hnz,ae];subst e;rw[Zk (hz n k m' t (ht.mono ub.1) hk ab6)];simp only[av,aq];have jA:ar (((a*64:Nat):Int)+(k:Int))=F k:=by rw[<-hF];exact Zc
   rw[jA];have wU:IntKind.wrap .u64 (((2^k*(2*m'+1):Nat):Int)-1)=((2^k*(2*m'+1)-1:Nat):Int):=by
    have h1:(((2^k*(2*m'+1):Nat):Int)-1)=((2^k*(2*m'+1)-1:Nat):Int):=by omega
    rw[h1];exact qP
   have iA:bits .and .u64 (((2^k*(2*m'+1):Nat):Int)) (IntKind.wrap .u64 (((2^k*(2*m'+1):Nat):Int)-1))=((2^k*(2*m'):Nat):Int):=by
    rw[wU,Zxl ab6,ZxI]
   rw[iA];rw[Zvq k m' hk]at hD sL;have hlD:(A++D.map F).length<=1000000:=by
    have h1:=congrArg List.length hD;rw[bB]at h1;have:=MK w;rw[bB,nQ];omega
   obtain⟨p2,s2,du,ri,he⟩:=ub.CP (β:=ah) (sz:=1) (n:=(A++D.map F).length) (lim:=8796093022208) [.int .i64 (F k)] (xp 0) (by simp[ints]) rfl (by omega);refine Eq.mpr (congrArg (Ok _) (he _)) ?_;refine j3 (oh (2^k*(2*m'))).length _ _ (by simp at sL;omega) ⟨_,1,D++[k],p2,?_,.inl rfl,?_,by rw[fI];exact hD,aQ _,?_⟩
   .rw[fA,<-fI,bB (as:=A++D.map F)];rfl
   .have:2^k*(2*m')<=2^k*(2*m'+1):=Nat.mul_le_mul_left _ (by omega)
    omega
   .rw[fA,<-fI]
    unfold ints at du⊢;rw[fA (l₁:=A++D.map F)];exact du
 .rw[aF (show ¬(a:Int)<(W.length:Int) by omega),af]
  simp only[aX,aq,Zd];rw[dG (by omega)]at ho⊢;refine .mk ⟨p,s,rfl,ho.1,ho.sl,λb hb=>?_⟩;rcases ho.2 with⟨rfl,_⟩|⟨i',rfl,h1,_⟩
  .cases hb
  .rw[cB.1 hb];exact h1
def Pm (x:Int):Int:=match Qi (λ_ _=>fail) 0 [.int .u64 x] []with
 |some (.val [.int _ v],_)=>v
 |_=>0
def Zsf (n:Nat) (x:Int) (st:St):run Bd (n+1) 210 [.int .u64 x] st=some (.val [.int .i64 (Pm x)],st):=by
 rw[Ze,h.aeG];rfl
def IM:Int->al->Int
 |a,[]=>a
 |a,w::r=>IM (ar (a+Pm w)) r
def BQ (W:al):Int:=IM 0 W
def ZrE (n:Nat) (st:St) (hs:gy st f i j m W) (hn:80<=n):Ok (λo=>o=(.val [.int .i64 (BQ W)],st)) (run Bd n 183 [.ptr (some (i,0))] st):=by
 obtain⟨n,rfl⟩: ∃k,n=k+2:=⟨n-2,by omega⟩;rw[Ze,h.aem];unfold QG jh oL iX wb cw Li kZ gJ;simp only[eH,aq,bd];rw[Zo hs.hd rfl];simp only[j9,Za];have hle:=hs.le;have hlen:=hs.len;refine Zi _ (λq y s=>∃(a:Nat) (c:Int),y=[.int .i64 c,.int .i64 a]/\a<=W.length/\W.length-a<=q/\s=st/\IM c (W.drop a)=BQ W) ?_ W.length (n+1) _ _ ⟨0,0,rfl,cz _,by omega,rfl,rfl⟩ (by omega);rintro q _ s ⟨a,c,rfl,ha,hq,rfl,hc⟩ rec aN;simp only[av,aq];by_cases aw:a<W.length
 .rw[ax (show(a:Int)<(W.length:Int) by omega),ae,bd,Zb (Zj aw),bp]
  rw[Zo (d:= .int .u64 (W[a]:Nat)) hs.wd (by rw[cR,gV];simp[Zv,aw])];simp only[bg];rw[Zk (Zsf n _ s)];simp only[av,aq];have cG:ar ((a:Int)+1)=((a+1:Nat):Int):=Zc;rw[cG];refine aN (W.length-(a+1)) _ _ (by omega) ⟨a+1,_,rfl,by omega,aQ _,rfl,?_⟩;rw[<-hc,iV aw];rfl
 .rw[aF (show ¬(a:Int)<(W.length:Int) by omega),af]
  simp only[Zd];rw[lU (by omega)]at hc;exact .mk (by rw[<-hc];rfl)
def ZpM (n:Nat) (W V:al) (a b:Nat) (f g:Bool) (st:St) (ha:st[a]? =some (some ⟨f,Zv W⟩)) (hb:st[b]? =some (some ⟨g,Zv V⟩)) (hW:W.length<100000) (hn:W.length+3<=n):
  Ok (λo=>o=(.val [.bool (decide (W=V))],st)) (run Bd n 236 [.slice 1 (some (a,0)) W.length,.slice 1 (some (b,0)) V.length] st):=by
 obtain⟨n,rfl⟩: ∃k,n=k+2:=⟨n-2,by omega⟩;rw[Ze,h.ae3];unfold Qa bV Q_ cM wb Lb Li;simp only[aX,aq];have no:W≠V->Ok (λo=>o=(.val [.bool (decide (W=V))],st)) ((ay [.bool false]:M ah) st):=by
  intro hm;rw[Zd];exact .mk (by rw[aF hm])
 by_cases hlen:W.length=V.length;rotate_left
 .rw[show((W.length:Int)==(V.length:Int))=false from eG.2 (by omega),bn,ae]
  grind
 rw[show((W.length:Int)==(V.length:Int))=true by rw[hlen];simp,br,af,Za];refine Zi _ (λk v s=>∃i:Nat,v=[.int .i64 i]/\i<=W.length/\W.length-i<=k/\s=st/\∀j,j<i->W[j]? =V[j]?) ?_ W.length (n+1) _ _ (by grind) (by omega);rintro k _ s ⟨i,rfl,hi,hk,rfl,dt⟩ rec aN;simp only[av,aq];by_cases aw:i<W.length
 .have kL:i<V.length:=by omega
  rw[ax (show(i:Int)<(W.length:Int) by omega),ae,bd,Zb (Zj aw),bp];rw[Zo (d:= .int .u64 (W[i]:Nat)) ha (by rw[cR,gV];simp[Zv,aw])];simp only[bg];rw[bd,Zb (Zj kL)];rw[Zo (d:= .int .u64 (V[i]:Nat)) hb (by rw[cR,gV];simp[Zv,kL])];simp only[bg];by_cases hw:W[i]=V[i]
  .rw[show(((W[i]:Nat):Int)==((V[i]:Nat):Int))=true by rw[hw];simp,br,af,Zc]
   refine aN (W.length-(i+1)) _ _ (by omega) ⟨i+1,rfl,by omega,by omega,rfl,λj hj=>?_⟩;by_cases nz:j<i
   .exact dt j nz
   grind
  grind
 .rw[aF (show ¬(i:Int)<(W.length:Int) by omega),af,Zd]
  refine .mk ?_;have:W=V:=tg λj=>by
   by_cases hj:j<i
   .exact dt j hj
   grind
  rw[ax this]
def Zmy (n:Nat) (st:St) (hs:gy st f i j m W) (mu:gy st g i2 j2 m2 V) (hn:80<=n:=by omega):
  Ok (λo=>o=(.val [.bool (decide (m=m2)&&decide (W=V))],st)) (run Bd n 202 [.ptr (some (i,0)),.ptr (some (i2,0))] st):=by
 obtain⟨n,rfl⟩: ∃k,n=k+1:=⟨n-1,by omega⟩;rw[Ze,h.aez];unfold Ra jh Zm aA bq Lb we;simp only[eH,aq,bd];rw[Zo hs.hd rfl];simp only[bg];rw[Zo mu.hd rfl];simp only[bg,Za];have hle:=hs.le;have hlen:=hs.len;by_cases hm:m=m2
 .rw[show((m:Int)==(m2:Int))=true by rw[hm];simp,ae,Zo hs.hd rfl]
  simp only[j9];rw[Zo mu.hd rfl];simp only[j9];refine Ok.call (ZpM n W V j j2 f g st hs.wd mu.wd (by omega) (by omega)) ?_;rintro _ rfl;refine⟨_,st,rfl,?_⟩;simp only[au,aq,Zd];exact .mk (by rw[ax hm,dF])
 .rw[show((m:Int)==(m2:Int))=false from eG.2 (by omega),af]
  simp only[au,aq,Zd];exact .mk (by rw[aF hm,gf])
def si (l:List ZP):ah:=(l.map ZW).flatten
def Mh {x:ZP} (h:x.eY.length=48):(ZW x).length=49:=by simp[ZW,cO,Zu,h]
def Td: ∀ {l:List ZP},(∀x∈l,x.eY.length=48)->(si l).length=l.length*49
 |[],_=>rfl
 |x::l,h=>by
  show(ZW x++si l).length=_;rw[bB,Mh (h x (by simp)),Td λy hy=>h y (by simp[hy]),cO];omega
def ZnC: ∀ {l:List ZP} {j:Nat} {e:ZP},(∀x∈l,x.eY.length=48)->l[j]? =some e->((si l).drop (j*49)).take 49=ZW e
 |[],j,e,_,h=>by simp at h
 |x::l,0,e,hl,h=>by
  simp only[kW,fT]at h;subst h;rw[ux,dK];have:=Mh (hl x (by simp));show(ZW x++si l).take 49=_;rw[<-this,EY]
 |x::l,j+1,e,hl,h=>by
  have e2:si (x::l)=ZW x++si l:=rfl;have h49:=Mh (hl x (by simp));rw[e2,show(j+1)*49=(ZW x).length+j*49 by omega,<-kV,C4];exact ZnC (by grind) (by simpa using h)
def Zt2 (l m:List ZP):si (l++m)=si l++si m:=by
 simp[si]
def CO (m:Nat) (x:ZP):Bool:=bif decide (0<(eU x 384).length)then decide ((eU x 384).getLastD 0>=(m:Int))else false
def BM (m:Nat):Nat->List ZP->al->Option (al)
 |_,[],W=>some W
 |i,x::r,W=>bif decide (x.no=i)&& !CO m x then BM m (i+1) r ((eU x 384).foldl (bK m) W)else none
def B6 (m:Nat) (l:List ZP):Option (al):=bif decide ((l.length:Int)=rJ m 384)then BM m 0 l (jd m [])else none
def ZpZ (n:Nat) (x:Int) (st:St):run Bd (n+1) 240 [.int .i64 x] st=some (.val [.int .i64 (rJ x 384)],st):=by
 rw[Ze,h.ae7];rfl
def ZsG (n m:Nat) (l:List ZP) (p:ai) (z:Nat) (st:St) (hm:m<=3072) (hz:z=49\/p=none) (hl:Sl st p (si l)) (wG: ∀x∈l,x.eY.length=48/\x.no<8) (gp:l.length<1000) (hn:2000<=n):
  Ok (λo=>∃s',aB st s'/\match B6 m l with
   |none=>o=(.val [.ptr none,.bool false],s')
   |some F=>∃i j,o=(.val [.ptr (some (i,0)),.bool true],s')/\gy s' false i j m F) (run Bd n 200 [.int .i64 (m:Int),.slice z p l.length] st):=by
 obtain⟨n,rfl⟩: ∃k,n=k+2:=⟨n-2,by omega⟩;obtain⟨R,hR⟩: ∃R,B6 m l=R:=⟨_,rfl⟩;rw[hR];unfold B6 at hR;rw[Ze,h.aex];unfold S6 aA zA Q_ cM N_ iL C_ Zm cw Li Lb;simp only[av,Zg 49 z p _ hz,aq];rw[Za,aF (show ¬((m:Nat):Int)<0 by omega),af,aF (show ¬((m:Nat):Int)>3072 by omega)];simp only[au,aq];rw[Za,af,Zk (ZpZ n m st)];simp only[av,au,aq];have hq:(((l.length:Nat):Int)==rJ m 384)=decide (((l.length:Nat):Int)=rJ m 384):=rfl;rw[hq];cases Ch:decide (((l.length:Nat):Int)=rJ m 384)with
 |false=>
  rw[Ch,af]at hR;rw[bn,ae,Zd,<-hR];exact .mk ⟨st,.refl st,rfl⟩
 |true=>
 rw[Ch,ae]at hR;rw[br,af];obtain⟨s1,e1,aH,On,OR⟩:=Ua (n+1) m [] none st hm rfl (by show 0<1000000;omega) (by grind);have ya:run Bd (n+1) 177 [.int .i64 (m:Int),.slice 0 none 0] st=some (.val [.ptr (some (st.length+1,0))],s1):=by
  rw[Ze,h.aaX]at e1⊢;exact e1
 rw[Zk ya];simp only[eH,aq];rw[Za];refine Zi _ (λq y s=>∃(i:Nat) (W:al),y=[.int .i64 i]/\i<=l.length/\l.length-i<=q/\aB st s/\gy s false (st.length+1) st.length m W/\BM m i (l.drop i) W=R) ?_ l.length (n+1) _ _ ⟨0,_,rfl,cz _,by omega,aH,OR,hR⟩ (by omega);rintro q _ s ⟨i,W,rfl,hi,hq,iB,dh,aP⟩ rec aN;simp only[av,aq];by_cases aw:i<l.length
 .have dA:=hl.mono iB
  have mX:l[i]? =some l[i]:=cq aw;obtain⟨WA,h8x⟩:=wG _ (kz aw);have hlen:=Td λx hx=>(wG x hx).1
  obtain⟨i1,o1,rfl⟩:=dA.cH (by rw[hlen];omega);have fW:l.drop i=l[i]::l.drop (i+1):=iV aw;rw[fW]at aP;rw[ax (show(i:Int)<(l.length:Int) by omega),ae,bd,Zb (Zj aw),bp,dA.yi (k:=i*49) (n:=49) (by rw[hlen];omega),ZnC (λx hx=>(wG x hx).1) mX];generalize l[i]=x at aP WA h8x;unfold BM at aP;have ig:(bU x.eY).length=48:=by rw[Zu,WA]
  show Ok _ (aD .i64 (.int .i64 x.no::bU x.eY) _ s);simp only[av];rw[bI ig,bI (by simp[ig])];refine Ok.call (ZrG (n+1) x WA h8x s (by omega)) ?_;rintro _ ⟨px,s2,rfl,aU,vn⟩;refine⟨_,s2,rfl,?_⟩;simp only[aX,aq];have yD:=dh.pre aU;have akg:=Zrp x 384;have mw: ∀t,aB st t->R=none->Ok (λo=>∃s',aB st s'/\match R with
   |none=>o=(.val [.ptr none,.bool false],s')
   |some F=>∃i j,o=(.val [.ptr (some (i,0)),.bool true],s')/\gy s' false i j m F) ((ay [.ptr none,.bool false]:M ah) t):=by
   intro t ht e;rw[e,Zd];exact .mk ⟨t,ht,rfl⟩
  have dP:((((x.no:Nat):Int))==((i:Nat):Int))=decide (x.no=i):=by
   by_cases e:x.no=i
   .rw[e,ax rfl];grind
   grind
  rw[dP];cases cA:decide (x.no=i)with
  |false=>
   rw[cA,gf,af]at aP;rw[Za,bn,ae];simp only[au,aq,ae];exact mw s2 (iB.trans aU) aP.symm
  |true=>
  rw[cA,dF]at aP;obtain⟨ov,yB⟩: ∃ov,CO m x=ov:=⟨_,rfl⟩;rw[yB]at aP;unfold CO at yB;refine Ok.join λck Cu=>?_
  have hA:Ok (λo=>∃s',aB st s'/\match R with
   |none=>o=(.val [.ptr none,.bool false],s')
   |some F=>∃i j,o=(.val [.ptr (some (i,0)),.bool true],s')/\gy s' false i j m F) (ck [.bool ov] s2):=by
   rw[Cu];simp only[au,aq];cases ov with
   |true=>
    rw[br,af]at aP;rw[ae];exact mw s2 (iB.trans aU) aP.symm
   |false=>
    rw[bn,ae]at aP;rw[af];have El:lG [st.length] px:=λb o e hb=>by
     rw[cB.1 hb]at e;subst e;obtain⟨all,e1⟩:=vn.2 _ _ rfl;rw[yD.wd]at e1;cases e1
    rw[Zk (Ia (n+1) (eU x 384) px s2 yD (by omega) vn.1 El)];simp only[aq];have cG:ar ((i:Int)+1)=((i+1:Nat):Int):=Zc;rw[cG];have ah4:=iB.trans aU;refine aN (l.length-(i+1)) _ _ (by omega) ⟨i+1,_,rfl,by omega,aQ _,tC ah4 (aQ _) _,yD.add (by omega) _ (by rw[(ZF m _ _).1]) ((ZF m _ _).2 yD.lt),aP⟩
  rw[br,af,Za];cases wR:decide (0<(eU x 384).length)with
  |false=>
   rw[wR,af]at yB;have:=Ff wR;rw[aF (show ¬(((eU x 384).length:Nat):Int)>0 by omega),af];simp only[au,aq];grind
  |true=>
   rw[wR,ae]at yB;have akn:=mI wR;obtain⟨i2,o2,rfl⟩:=vn.1.cH (by simp[ints];omega);have fR:ar ((((eU x 384).length:Nat):Int)-1)=(((eU x 384).length-1:Nat):Int):=by rw[Zc];omega
   rw[ax (show(((eU x 384).length:Nat):Int)>0 by omega),ae,bd,fR,Zb (Zj),bp,vn.1.dJ (ZD)];simp only[bg];have JO:(eU x 384)[(eU x 384).length-1]'(by omega)=(eU x 384).getLastD 0:=by
    rw[List.getLastD_eq_getLast?,List.getLast?_eq_getElem?,cq (by omega)];rfl
   rw[JO,yB];simp only[au,aq];exact hA
 .rw[aF (show ¬(i:Int)<(l.length:Int) by omega),af]
  simp only[Zd];rw[lU (by omega)]at aP;rw[<-aP];exact .mk ⟨s,iB,_,_,rfl,dh⟩
def eZ (v:Int):Nat:=(v%18446744073709551616).toNat
def rI (v:Int):UInt8:=UInt8.ofNat (v%256).toNat
def tx (v:Int):eZ v<18446744073709551616:=by unfold eZ;omega
def FI (v:Int):IntKind.wrap .u64 v=((eZ v:Nat):Int):=by
 have e:v=v/18446744073709551616*18446744073709551616+((eZ v:Nat):Int):=by unfold eZ;omega
 have h:=qP (tx v);have hm:IntKind.wrap .u64 v=v%18446744073709551616:=rfl;rw[hm];unfold eZ;omega
def Zs7 (v:Int):IntKind.wrap .u8 v=((rI v).toNat:Int):=by
 have hm:IntKind.wrap .u8 v=v%256:=rfl;rw[hm];unfold rI;show _=(((v%256).toNat%256:Nat):Int);omega
def Zqz (n:Nat) (v i:Nat) (hv:v<18446744073709551616) (st:St) (hi:i<1000) (hn:i+3<=n):
  Ok (λo=>o=(.val [.int .u8 ((v/256^i%256:Nat):Int)],st)) (run Bd n 248 [.int .u64 (v:Int),.int .i64 (i:Int)] st):=by
 obtain⟨n,rfl⟩: ∃k,n=k+2:=⟨n-2,by omega⟩;rw[Ze,h.aff];unfold RU BE BP zT lF ZC kZ;simp only[av,aq,Za];refine Zi _ (λq y s=>∃k:Nat,y=[.int .u64 ((v/256^k:Nat):Int),.int .i64 (k:Int)]/\k<=i/\i-k<=q/\s=st) ?_ i (n+1) _ _ ⟨0,by rw[Nat.pow_zero,Nat.div_one];rfl,cz _,by omega,rfl⟩ (by omega);rintro q _ s ⟨k,rfl,hk,hq,rfl⟩ rec aN;simp only[av,aq];have hd:v/256^k<18446744073709551616:=C9 (E9 _ _) hv;by_cases aw:k<i
 .rw[ax (show(k:Int)<(i:Int) by omega),ae]
  have h1:((v/256^k:Nat):Int).tdiv 256=((v/256^(k+1):Nat):Int):=by
   rw[uw,<-E8];rfl
  have h2:v/256^(k+1)<18446744073709551616:=by grind
  rw[h1,qP h2,Zc];exact aN (i-(k+1)) _ _ (by omega) (by grind)
 .rw[aF (show ¬(k:Int)<(i:Int) by omega),af]
  have:k=i:=by omega
  subst this;simp only[Zd];refine .mk ?_;have h1:((v/256^k:Nat):Int).tmod 256=((v/256^k%256:Nat):Int):=rfl;rw[h1];have h2:IntKind.wrap .u8 ((v/256^k%256:Nat):Int)=((v/256^k%256:Nat):Int):=by
   show((v/256^k%256:Nat):Int)%256=_;omega
  rw[h2]
def TV (v n:Nat):db v (n+1)=db v n++[UInt8.ofNat (v/256^n)]:=by
 rw[UQ];rfl
def Zvj (x:Nat) (_h:x<256):tB [.int .u8 (x:Int)]=some [UInt8.ofNat x]:=rfl
def tt (n:Nat) (v k:Nat) (hv:v<18446744073709551616) (st:St) (hk:k<1000:=by omega) (hn:k+10<=n:=by omega):
  Ok (λo=>∃s',o=(.val [.str (db v k)],s')/\aB st s') (run Bd n 213 [.int .u64 (v:Int),.int .i64 (k:Int)] st):=by
 obtain⟨n,rfl⟩: ∃k,n=k+2:=⟨n-2,by omega⟩;rw[Ze,h.aeI];unfold TM BE tp uI Ls ZC lF eI;simp only[av,aq,Za];refine Zi _ (λq y s=>∃i:Nat,y=[.str (db v i),.int .i64 (i:Int)]/\i<=k/\k-i<=q/\aB st s) ?_ k (n+1) _ _ ⟨0,rfl,cz _,by omega,.refl st⟩ (by omega);rintro q _ s ⟨i,rfl,hi,hq,hp⟩ rec aN;simp only[bR,av,aq];by_cases aw:i<k
 .rw[ax (show(i:Int)<(k:Int) by omega),ae]
  refine Ok.call (Zqz (n+1) v i hv s (by omega) (by omega)) ?_;rintro _ rfl;refine⟨_,s,rfl,?_⟩;simp only[av,aq];rw[Zz,Iy (by show 0+1<=1;omega)];show Ok _ (kd [.int .u8 ((v/256^i%256:Nat):Int)] _ _);unfold kd;rw[Zvj _ (Nat.mod_lt _ (by decide))];simp only;rw[Zb (gA (by rw[ZA];show i+1<=_;omega)),Zc];refine aN (k-(i+1)) _ _ (by omega) ⟨i+1,?_,by omega,aQ _,hp.trans (aB.new _ _)⟩;rw[TV];have:UInt8.ofNat (v/256^i%256)=UInt8.ofNat (v/256^i):=by
   refine HF.1 ?_;simp
  rw[this];rfl
 .rw[aF (show ¬(i:Int)<(k:Int) by omega),af]
  have:i=k:=by omega
  subst this;simp only[Zd];exact .mk ⟨s,rfl,hp⟩
def Zr8 (n:Nat) (x:Nat) (hx:x<4294967296) (st:St):run Bd (n+1) 288 [.int .u32 (x:Int)] st=some (.val [.int .u32 (oC x:Nat)],st):=by
 rw[Ze,h.afI];unfold Tl kY oC;simp only[av,aq];have h1:((x:Int).tmod 2==1)=decide (x%2=1):=by
  have e:(x:Int).tmod 2=((x%2:Nat):Int):=rfl;rw[e];by_cases h:x%2=1
  .rw[h,ax rfl];rfl
  grind
 have h2:(x:Int).tdiv 2=((x/2:Nat):Int):=rfl;rw[h1,h2,BR];by_cases h:x%2=1
 .rw[ax h,ae,bE h]
  have:=EU (x:=x/2) (y:=2197175160) (by omega);rw[show((2197175160:Nat):Int)=2197175160 from rfl]at this;rw[this];rfl
 .rw[aF h,af,bj h];rfl
def ZpR (n:Nat) (x k:Nat) (hx:x<4294967296) (st:St) (hk:k<1000) (hn:k+4<=n):
  Ok (λo=>o=(.val [.int .u32 (ZO k x:Nat)],st)) (run Bd n 264 [.int .u32 (x:Int),.int .i64 (k:Int)] st):=by
 obtain⟨n,rfl⟩: ∃k,n=k+2:=⟨n-2,by omega⟩;rw[Ze,h.aft];unfold Rv cP xV xH uO kY pU;simp only[av,aq,Za];have kL: ∀i,ZO i x<4294967296:=λi=>by
  induction i with
  |zero=>exact hx
  |succ i ih=>rw[LV];exact ZtE ih
 refine Zi _ (λq y s=>∃i:Nat,y=[.int .u32 ((ZO i x:Nat):Int),.int .i64 (i:Int)]/\i<=k/\k-i<=q/\s=st) ?_ k (n+1) _ _ ⟨0,rfl,cz _,by omega,rfl⟩ (by omega);rintro q _ s ⟨i,rfl,hi,hq,rfl⟩ rec aN;simp only[av,aq];by_cases aw:i<k
 .rw[ax (show(i:Int)<(k:Int) by omega),ae,Zk (Zr8 n _ (kL i) s)]
  simp only[av,aq];rw[<-LV,Zc];exact aN (k-(i+1)) _ _ (by omega) (by grind)
 .rw[aF (show ¬(i:Int)<(k:Int) by omega),af]
  have:i=k:=by omega
  subst this;simp only[Zd];exact .mk rfl
def ZtP (n:Nat) (a:ai) (l:aj) (st:St) (ha:dc st a l) (hl:l.length<1000000) (hn:l.length+20<=n):
  Ok (λo=>o=(.val [.int .u32 (wy l:Nat)],st)) (run Bd n 242 [.slice 1 a l.length] st):=by
 obtain⟨n,rfl⟩: ∃k,n=k+2:=⟨n-2,by omega⟩;rw[Ze,h.ae9];unfold SK bV xV xH N_ mP uO kY pU;simp only[aX,aq,Za];refine Zi _ (λq y s=>∃(i:Nat),y=[.int .u32 (((l.take i).foldl sU 4294967295:Nat):Int),.int .i64 (i:Int)]/\i<=l.length/\l.length-i<=q/\s=st) ?_ l.length (n+1) _ _ (by grind) (by omega);rintro q _ s ⟨i,rfl,hi,hq,rfl⟩ rec aN;simp only[av,aq];have hx:=IS (l.take i) (x:=4294967295) (by omega);by_cases aw:i<l.length
 .obtain⟨i1,o1,rfl⟩:=ha.cH (by omega)
  have mX:l[i]? =some l[i]:=cq aw;have fZ:l.take (i+1)=l.take i++[l[i]]:=by simp
  rw[ax (show(i:Int)<(l.length:Int) by omega),ae,bd,Zb (Zj aw),bp,ha.dJ mX];simp only[bg];have hc:=(l[i]).toNat_lt;rw[BR,EU hx];refine Ok.call (ZpR (n+1) _ 8 (HD (n:=32) (by omega) (by omega)) s (by omega) (by omega)) ?_;rintro _ rfl;refine⟨_,s,rfl,?_⟩;simp only[av,aq];rw[Zc];refine aN (l.length-(i+1)) _ _ (by omega) ⟨i+1,?_,by omega,aQ _,rfl⟩;rw[fZ,zn];rfl
 .rw[aF (show ¬(i:Int)<(l.length:Int) by omega),af]
  simp only[Zd];rw[dG (by omega)]at hx⊢;refine .mk ?_;have h1:(4294967295:Int)-((l.foldl sU 4294967295:Nat):Int)=((wy l:Nat):Int):=by unfold wy;omega
  rw[h1,BR (Vt l)]
def l9 (n:Nat):aj:=List.replicate n 0
def jQ (s:aj) (n:Nat):aj:=s++l9 (n-s.length)
def pF (kind tag:Int) (body:aj):aj:=[rI kind,rI tag,0,0]++jQ body 56
def iS (kind tag:Int) (body:aj):aj:=db (wy (pF kind tag body)) 4++pF kind tag body
def ZrA (n:Nat):gY n [.int .u8 0]=bU (l9 n):=by
 simp[gY,l9,bU]
def ZrN (n:Nat) (s:aj) (k:Nat) (hs:s.length<1000000) (hk:k<1000000) (st:St):
  Ok (λo=>∃s',o=(.val [.str (jQ s k)],s')/\aB st s') (run Bd (n+1) 249 [.str s,.int .i64 (k:Int)] st):=by
 rw[Ze,h.afg];unfold Sd nU lF Ls;simp only[bR,av,aq];have hw:ar ((k:Int)-(s.length:Int))=(k:Int)-(s.length:Int):=Zc;have hd:(if (k:Int)-(s.length:Int)<0 then(0:Int)else(k:Int)-(s.length:Int))=((k-s.length:Nat):Int):=by
  split<;>omega
 simp only[hw,hd,bp];rw[Zb (by rw[aY,aY,bu,bu,bu];omega),Zz];rw[ZrA,Iy (by rw[Zu];simp[l9]),dK,dG (by rw[Zu];simp[l9]),<-ll,oJ];rw[Zb (gA (by grind[l9])),Zd];exact .mk ⟨_,rfl,aB.new _ _⟩
def Bu (n:Nat) (kind tag:Int) (body:aj) (hb:body.length<100000) (st:St) (hn:body.length+200<=n:=by omega):
  Ok (λo=>∃s',o=(.val [.str (iS kind tag body)],s')/\aB st s') (run Bd n 214 [.int .i64 kind,.int .i64 tag,.str body] st):=by
 obtain⟨n,rfl⟩: ∃k,n=k+2:=⟨n-2,by omega⟩;rw[Ze,h.aeJ];unfold Se jJ jw uO jf eI aZ ZC Ls;simp only[bR,av,aq];have Cg:([.int .u8 (IntKind.wrap .u8 kind),.int .u8 (IntKind.wrap .u8 tag),.int .u8 0,.int .u8 0]:ah)=bU [rI kind,rI tag,0,0]:=by
  rw[Zs7,Zs7];rfl
 rw[Cg,Zz,Iy (by rw[Zu];show 0+4<=4;omega),dK,dG (by rw[Zu];show 4<=4;omega),<-ll,oJ];refine Ok.cx (ZrN n body 56 (by omega) (by omega) _) λs1 aH=>?_
 simp only[bR,aq];have hS:[rI kind,rI tag,0,0]++jQ body 56=pF kind tag body:=rfl;have hSl:(pF kind tag body).length=4+(jQ body 56).length:=by grind
 have aj8:(jQ body 56).length<=body.length+56:=by
  simp[jQ,l9]
 rw[Zb (gA (by show 4+_<=_;omega)),hS,Zz];refine Ok.call (ZtP (n+1) (some (s1.length,0)) (pF kind tag body) _ ⟨false,ZQ (pF kind tag body),by simp,Nat.le_of_eq (by rw[eW,ll]),by rw[dK,ll,rR]⟩ (by omega) (by omega)) ?_;rintro _ rfl;refine⟨_,_,rfl,?_⟩;simp only[av,aq];have hc:=Vt (pF kind tag body);rw[qP];refine Ok.call (tt (n+1) _ 4 (by omega) _) ?_;rintro _ ⟨s2,rfl,aU⟩;refine⟨_,_,rfl,?_⟩;simp only[bR,aq];rw[Zb (gA (by rw[ZA];omega)),Zd];exact .mk ⟨s2,rfl,(((aB.new _ _).trans aH).trans (aB.new _ _)).trans aU⟩
def Zr3 (n:Nat) (a:Int) (k:Nat) (hk:0<k) (jn:k<1000000000) (_ha: -9223372036854775808<=a/\a<=9223372036854775807) (st:St):run Bd (n+1) 179 [.int .i64 a,.int .i64 (k:Int)] st=some (.val [.int .i64 (a%(k:Int))],st):=by
 rw[Ze,h.ael];unfold SI iX Li;simp only[av,aq];have h0:(!((k:Int)==0))=true:=by rw[lD,eG];omega
 rw[Zb h0,Zb h0,Zd];have hb:=Int.tmod_lt_of_pos a (show(0:Int)<k by omega);have c9: -(k:Int)<a.tmod k:=by
  have:=Int.neg_tmod a k;have h3:=Int.tmod_lt_of_pos (-a) (show(0:Int)<k by omega);omega
 have hw:ar (a.tmod k+k)=a.tmod k+k:=Zc;rw[hw];have he:(a.tmod k+k).tmod k=a%k:=by
  rw[Int.tmod_eq_emod_of_nonneg (by omega),Int.add_emod_right];have e:a.tmod k=a+k*(-(a.tdiv k)):=by
   have:=Int.mul_tdiv_add_tmod a k;rw[Int.mul_neg];omega
  rw[e,Int.add_mul_emod_self_left]
 rw[he]
def js (l:ak):aj:=(l.map λk=>db (eZ k) 2).flatten
def uM (l:ak):(js l).length=2*l.length:=by
 unfold js;induction l with
 |nil=>rfl
 |cons k l ih=>rw[oG,C6,bB,ZA,ih,cO];omega
def H5 (l:ak) (h:i<l.length):js (l.take (i+1))=js (l.take i)++db (eZ l[i]) 2:=by
 unfold js;rw[lV h,fA,Hw];simp
def jO (k:Int):Bool:=decide (k>=2)&&decide (k<=3071)
def HP (n:Nat) (k:Int) (st:St):run Bd (n+1) 251 [.int .i64 k] st=some (.val [.bool (jO k)],st):=by
 rw[Ze,h.afi];unfold RZ cP aA Lb jO;simp only[av,aq,Za];cases decide (k>=2)<;>rfl
def Z5 {a b:Nat} (h:a<=b) (K:M β):aC (Nat.ble a b) K=K:=Zb (gA h) K
def Pd (x:jK):aj:=db (eZ x.bJ.key) 8++db (eZ x.bJ.value) 8++db (eZ x.bJ.slot) 4++db (eZ x.bJ.gen) 4++js x.kids
def xe (x:jK):aj:=iS 1 x.kids.length (Pd x)
def Zml (n:Nat) (x:jK) (z:Nat) (p:ai) (st:St) (hz:z=1\/p=none) (hs:Sl st p (ints x.kids)) (hl:x.kids.length<1000) (hn:2400<=n:=by omega):
  Ok (λo=>∃s',o=(.val [.str (xe x)],s')/\aB st s') (run Bd n 250 [.agg (oA x z p)] st):=by
 obtain⟨n,rfl⟩: ∃k,n=k+2:=⟨n-2,by omega⟩;rw[Ze,h.afh];unfold SZ Fm jw Db tp jf uI Zn ZC pP Ls eI oA fk;simp only[nP,jG];rw[cT];simp only[av,Zg 1 z p _ hz,aq,FI];refine Ok.cx (tt (n+1) _ 8 (tx _) st) λs1 aH=>?_
 simp only[bR,aq];refine Ok.cx (tt (n+1) _ 8 (tx _) s1) λs2 aU=>?_
 simp only[bR,aq];rw[Z5 (by rw[ZA,ZA];omega)];refine Ok.cx (tt (n+1) _ 4 (tx _) s2) λs3 cu=>?_
 simp only[bR,aq];rw[Z5 (by rw[bB,ZA,ZA,ZA];omega)];refine Ok.cn (tt (n+1) _ 4 (tx _) s3) λs4 fw=>?_
 simp only[bR,aq];rw[Z5 (by rw[bB,bB,ZA,ZA,ZA,ZA];omega),Za];have hP:=((aH.trans aU).trans cu).trans fw;obtain⟨A,hA⟩: ∃A,db (eZ x.bJ.key) 8++db (eZ x.bJ.value) 8++db (eZ x.bJ.slot) 4++db (eZ x.bJ.gen) 4=A:=⟨_,rfl⟩;have yj:A.length=24:=by rw[<-hA];simp[ZA]
 rw[hA];refine Zi _ (λq y s=>∃i:Nat,y=[.str (A++js (x.kids.take i)),.int .i64 (i:Int)]/\i<=x.kids.length/\x.kids.length-i<=q/\aB st s) ?_ x.kids.length (n+1) _ _ ⟨0,by rw[List.take_zero];show _=[DV.str (A++[]),_];rw[gz];rfl,cz _,by omega,hP⟩ (by omega);rintro q _ s ⟨i,rfl,hi,hq,iB⟩ rec aN;simp only[bR,av,aq];by_cases aw:i<x.kids.length
 .have dA:=hs.mono iB
  obtain⟨i1,o1,rfl⟩:=dA.cH (by simp[ints];omega);rw[ax (show(i:Int)<(x.kids.length:Int) by omega),ae,bd,Zb (Zj aw),bp,dA.dJ (ZD aw)];simp only[bg];refine Ok.cv (tt (n+1) _ 2 (tx _) s) λs5 jY=>?_
  simp only[bR,aq];rw[Z5 (by rw[bB,uM,ZA,cX,yj];omega),Zc];refine aN (x.kids.length-(i+1)) _ _ (by omega) ⟨i+1,by rw[H5 _ aw,fI];rfl,by omega,aQ _,iB.trans jY⟩
 .rw[aF (show ¬(i:Int)<(x.kids.length:Int) by omega),af]
  rw[dG (by omega)];refine Ok.cv (Bu (n+1) 1 x.kids.length (A++js x.kids) (by rw[bB,uM];omega) s (by rw[bB,uM];omega)) λs5 jY=>?_
  simp only[bR,aq,Zd];refine .mk ⟨s5,?_,iB.trans jY⟩;unfold xe Pd;rw[hA]
def xi (x:bw):Bool:= !(decide (x.gen<0)||decide (x.gen>4294967295))&&(bif x.live then decide (x.gen>0)&&jO x.block else(decide (x.block>=0)&&decide (x.block<=1792))&&(!(x.gen==0)||x.block==0))
def ZrI (n:Nat) (x:bw) (st:St):run Bd (n+2) 252 [.agg (eL x)] st=some (.val [.bool (xi x)],st):=by
 rw[Ze,h.afj];unfold SF qI aA bq Lb Li xi eL;rw[cT];simp only[au,av,aq,Za];have e0:=HP n x.block st;cases decide (x.gen<0)with
 |true=>rfl
 |false=>
 cases decide (x.gen>4294967295)with
 |true=>rfl
 |false=>
 simp only[af,Bool.or_self,bn,dF];cases x.live with
 |true=>
  simp only[ae];cases decide (x.gen>0)with
  |true=>
   simp only[ae];rw[Zk e0];rfl
  |false=>rfl
 |false=>
  simp only[af];cases decide (x.block>=0)with
  |false=>rfl
  |true=>
   simp only[ae,dF];cases decide (x.block<=1792)with
   |false=>rfl
   |true=>
    simp only[ae,dF];cases(x.gen==0)with
    |true=>rfl
    |false=>rfl
def nZ:List bw->aj
 |[]=>[]
 |x::r=>db (eZ x.gen) 4++db (eZ x.block) 4++nZ r
def j8:Nat->List bw->Nat
 |_,[]=>0
 |k,x::r=>(bif x.live then 2^k else 0)+j8 (k+1) r
def Ud: ∀l:List bw,(nZ l).length=8*l.length
 |[]=>rfl
 |x::r=>by rw[nZ,bB,bB,ZA,ZA,Ud r,cO];omega
def Zom: ∀l m:List bw,nZ (l++m)=nZ l++nZ m
 |[],m=>rfl
 |x::r,m=>by rw[nP,nZ,nZ,Zom r m,<-fI]
def Zrh: ∀(k:Nat) (l m:List bw),j8 k (l++m)=j8 k l+j8 (k+l.length) m
 |k,[],m=>by simp[j8]
 |k,x::r,m=>by rw[nP,j8,j8,Zrh (k+1) r m,cO,show k+1+r.length=k+(r.length+1) by omega,uv]
def Ztu: ∀(k:Nat) (l:List bw),j8 k l+2^k<=2^(k+l.length)
 |k,[]=>by simp[j8]
 |k,x::r=>by
  have:=Ztu (k+1) r;rw[j8,cO,show k+(r.length+1)=k+1+r.length by omega];grind
def xI (l:List bw):Option (aj):=bif l.all xi then some (iS 2 (j8 0 l:Nat) (nZ l))else none
def yY:Option (aj)->ah
 |some s=>[.str s,.bool true]
 |none=>[.str [],.bool false]
def ZlK (n:Nat) (l:List bw) (hl:l.length=7) (st:St) (hn:400<=n:=by omega):
  Ok (λo=>∃s',o=(.val (yY (xI l)),s')/\aB st s') (run Bd n 219 [.agg (bT l)] st):=by
 obtain⟨n,rfl⟩: ∃k,n=k+3:=⟨n-3,by omega⟩;obtain⟨R,hR⟩: ∃R,xI l=R:=⟨_,rfl⟩;rw[hR];unfold xI at hR;rw[Ze,h.aeO];unfold Sn nU jf iX bq oL jw Db pP vV ZC zG Li eI;have cN:(bT l).length=21:=by rw[ZB,hl]
 rw[cT,bI cN];simp only[aq];rw[bI cN,Za];refine Zi _ (λq y s=>∃i:Nat,y=[.str (nZ (l.take i)),.int .i64 ((j8 0 (l.take i):Nat):Int),.int .i64 (i:Int)]/\i<=7/\7-i<=q/\aB st s/\(l.take i).all xi=true) ?_ 7 (n+2) _ _ ⟨0,rfl,cz _,by omega,.refl st,rfl⟩ (by omega);rintro q _ s ⟨i,rfl,hi,hq,iB,dt⟩ rec aN;simp only[bR,av,aq];by_cases aw:i<7
 .have ua:i<l.length:=by omega
  have fZ:l.take (i+1)=l.take i++[l[i]]:=by simp
  have mX:l[i]? =some l[i]:=cq ua;have Cg:((bT l).drop (i*3)).take 3=eL l[i]:=Mt mX;rw[ax (show(i:Int)<7 by omega),ae,Zb (show aR (i:Int) 7=true from Zj aw),bp,Z5 (by omega),Cg];have iO:l[i]∈l:=kz ua;generalize l[i]=x at fZ iO;rw[bI (cs:=eL x) (n:=3) rfl,Zk (ZrI n x s)];simp only[au,aq];cases hx:xi x with
  |false=>
   rw[bn,ae,Zd];have cA:l.all xi=false:=by
    rw[List.all_eq_false];grind
   rw[cA,af]at hR;rw[<-hR];exact .mk ⟨s,rfl,iB⟩
  |true=>
   rw[br,af];unfold eL;rw[hJ (d:= .bool x.live) rfl];simp only[tm];have uf:=Ztu 0 (l.take i);rw[cX,nS (by omega),eW]at uf;have h7:2^i<=2^7:=nT (by decide) (by omega);have agN:(l.take (i+1)).all xi=true:=by rw[fZ,tf,dt];simp[hx]
   refine Ok.join λaI jU=>?_
   have hA:Ok (λo=>∃s',o=(.val (yY R),s')/\aB st s') (aI [.int .i64 ((j8 0 (l.take (i+1)):Nat):Int)] s):=by
    rw[jU];simp only[av,aq];rw[hJ (d:= .int .i64 x.gen) rfl];simp only[bg,FI];refine Ok.cx (tt (n+2) _ 4 (tx _) s) λs1 aH=>?_
    simp only[bR,aq];have dA:=Ud (l.take i);rw[cX]at dA;rw[Z5 (by rw[dA,ZA];omega),hJ (d:= .int .i64 x.block) rfl];simp only[bg];refine Ok.cn (tt (n+2) _ 4 (tx _) s1) λs2 aU=>?_
    simp only[bR,aq];rw[Z5 (by rw[bB,dA,ZA,ZA];omega),Zc];refine aN (7-(i+1)) _ _ (by omega) ⟨i+1,?_,by omega,aQ _,(iB.trans aH).trans aU,agN⟩;rw[fZ,Zom];simp[nZ]
   have Ya:j8 0 (l.take (i+1))=j8 0 (l.take i)+(bif x.live then 2^i else 0):=by
    rw[fZ,Zrh,cX,nS (by omega),eW];simp[j8]
   cases eN:x.live with
   |false=>
    rw[eN,af]at Ya;have aiD:j8 0 (l.take i)=j8 0 (l.take (i+1)):=Ya.symm;rw[af,aiD];exact hA
   |true=>
    rw[eN,ae]at Ya;rw[ae,Zb (ax (by omega)),nS (by omega)];have e1:ar (1*2^i)=((2^i:Nat):Int):=by
     rw[Int.one_mul,show((2:Int)^i)=((2^i:Nat):Int) by push_cast;rfl];exact Zc
    rw[e1,Zc];grind
 .rw[aF (show ¬(i:Int)<7 by omega),af]
  rw[dG (by omega)]at dt⊢;rw[dt,ae]at hR;have dA:=Ud l;refine Ok.cv (Bu (n+2) 2 (j8 0 l:Nat) (nZ l) (by omega) s) λs1 aH=>?_
  simp only[bR,aq,Zd];rw[<-hR];exact .mk ⟨s1,rfl,iB.trans aH⟩
def uU (l:ak):Option (aj):=bif l.all λk=>k==0||jO k then some (iS 3 0 (js l))else none
def Sy (n:Nat) (l:ak) (hl:l.length=16) (st:St) (hn:400<=n:=by omega):
  Ok (λo=>∃s',o=(.val (yY (uU l)),s')/\aB st s') (run Bd n 218 [.agg (ints l)] st):=by
 obtain⟨n,rfl⟩: ∃k,n=k+3:=⟨n-3,by omega⟩;obtain⟨R,hR⟩: ∃R,uU l=R:=⟨_,rfl⟩;rw[hR];unfold uU at hR;rw[Ze,h.aeN];unfold Tf tp jf uI aA bq pP vV ZC eI Li Lb Ls;have cN:(ints l).length=16:=by simp[ints,hl]
 rw[cT,bI cN];simp only[aq];rw[bI cN,Za];refine Zi _ (λq y s=>∃i:Nat,y=[.str (js (l.take i)),.int .i64 (i:Int)]/\i<=16/\16-i<=q/\aB st s/\((l.take i).all λk=>k==0||jO k)=true) ?_ 16 (n+2) _ _ ⟨0,rfl,cz _,by omega,.refl st,rfl⟩ (by omega);rintro q _ s ⟨i,rfl,hi,hq,iB,dt⟩ rec aN;simp only[bR,av,aq];by_cases aw:i<16
 .have ua:i<l.length:=by omega
  have fZ:l.take (i+1)=l.take i++[l[i]]:=by simp
  have GQ:(ints l)[i*1]? =some (.int .i64 l[i]):=by rw[cR];exact ZD ua
  have iO:l[i]∈l:=kz ua;have JP:=H5 l ua;have Xu:aR (i:Int) 16=true:=Zj aw;rw[ax (show(i:Int)<16 by omega),ae];simp only[bp];rw[Zb Xu,hJ GQ];simp only[bg];generalize l[i]=x at fZ GQ iO JP;refine Ok.join λaI jU=>?_
  have cA:(x==0||jO x)=false->Ok (λo=>∃s',o=(.val (yY R),s')/\aB st s') ((ay [.str (bs []),.bool false]:M ah) s):=λe=>by
   have cA:(l.all λk=>k==0||jO k)=false:=by
    rw[List.all_eq_false];grind
   rw[cA,af]at hR;rw[<-hR,Zd];exact .mk ⟨s,rfl,iB⟩
  have ab9:(x==0||jO x)=true->Ok (λo=>∃s',o=(.val (yY R),s')/\aB st s') (aI [.bool false] s):=λe=>by
   rw[jU];simp only[au,aq];rw[af,Zb Xu,hJ GQ];simp only[bg,FI];refine Ok.cv (tt (n+2) _ 2 (tx _) s) λs1 aH=>?_
   simp only[bR,aq];rw[Z5 (by rw[uM,ZA,cX];omega),Zc];refine aN (16-(i+1)) _ _ (by omega) ⟨i+1,by rw[JP];rfl,by omega,aQ _,iB.trans aH,?_⟩;rw[fZ,tf,dt];simpa using e
  cases h0:(x==0)with
  |true=>
   rw[br,af];grind
  |false=>
   rw[bn,ae,Zb Xu,hJ GQ];simp only[bg];rw[Zk (HP (n+1) x s)];simp only[au,aq];cases hb:jO x with
   |true=>grind
   |false=>
    rw[jU];simp only[au,aq,bn,ae];grind
 .rw[aF (show ¬(i:Int)<16 by omega),af]
  rw[dG (by omega)]at dt⊢;rw[dt,ae]at hR;have dA:=uM l;refine Ok.cv (Bu (n+2) 3 0 (js l) (by omega) s) λs1 aH=>?_
  simp only[bR,aq,Zd];rw[<-hR];exact .mk ⟨s1,rfl,iB.trans aH⟩
def yV (x:ZH):aj:=iS 5 x.name.length (db (eZ x.mask) 4++js x.dz++x.name)
def ZmJ (n:Nat) (x:ZH) (hl:x.dz.length=12) (hm:x.name.length<60000) (st:St) (hn:x.name.length+500<=n):
  Ok (λo=>∃s',o=(.val [.str (yV x)],s')/\aB st s') (run Bd n 216 [.agg (Z0 x)] st):=by
 obtain⟨n,rfl⟩: ∃k,n=k+3:=⟨n-3,by omega⟩;rw[Ze,h.aeL];unfold TO jf tp uI ZC pP Ls eI Z0;have cN:(ints x.dz).length=12:=by simp[ints,hl]
 rw[cT];simp only[bR,av];rw[bI cN];simp only[aq];rw[bI (n:=14) (by simp[cN])];simp only[FI];refine Ok.cv (tt (n+2) _ 4 (tx _) st) λs0 ou=>?_
 simp only[bR,aq];rw[Za];have hA:(db (eZ x.mask) 4).length=4:=ZA _ _;unfold yV;generalize db (eZ x.mask) 4=A at hA;refine Zi _ (λq y s=>∃i:Nat,y=[.str (A++js (x.dz.take i)),.int .i64 (i:Int)]/\i<=12/\12-i<=q/\aB st s) ?_ 12 (n+2) _ _ ⟨0,by rw[List.take_zero];show _=[DV.str (A++[]),_];rw[gz];rfl,cz _,by omega,ou⟩ (by omega);rintro q _ s ⟨i,rfl,hi,hq,iB⟩ rec aN;simp only[bR,av,aq];by_cases aw:i<12
 .have ua:i<x.dz.length:=by omega
  have GQ:(ints x.dz)[i*1]? =some (.int .i64 x.dz[i]):=by rw[cR];exact ZD ua
  rw[ax (show(i:Int)<12 by omega),ae];simp only[bp];rw[Zb (show aR (i:Int) 12=true from Zj aw),hJ GQ];simp only[bg];refine Ok.cv (tt (n+2) _ 2 (tx _) s) λs1 aH=>?_
  simp only[bR,aq];rw[Z5 (by rw[bB,hA,uM,ZA,cX];omega),Zc];exact aN (12-(i+1)) _ _ (by omega) ⟨i+1,by rw[H5 _ ua,fI];rfl,by omega,aQ _,iB.trans aH⟩
 .rw[aF (show ¬(i:Int)<12 by omega),af]
  rw[dG (by omega)];have dA:=uM x.dz;rw[Z5 (by rw[bB];omega)];refine Ok.cv (Bu (n+2) 5 x.name.length (A++js x.dz++x.name) (by rw[bB,bB];omega) s (by rw[bB,bB];omega)) λs1 aH=>?_
  simp only[bR,aq,Zd];exact .mk ⟨s1,rfl,iB.trans aH⟩
def sv:ak->Nat->Bool
 |_l,0=>true
 |l,i+1=>sv l i&&(jO (l.getD i 0)&& !decide (l.getD i 0∈l.take i))
def zY (l:ak):Option (aj):=bif decide (1<=l.length)&&(decide (l.length<=16)&&sv l l.length)then some (iS 6 l.length (js l))else none
def Zsq {l:ak} : ∀ {i j:Nat},i<=j->sv l j=true->sv l i=true
 |i,0,h,e=>by
  grind
 |i,j+1,h,e=>by
  by_cases mm:i=j+1
  .subst mm;exact e
  .unfold sv at e
   rw[aY]at e;exact Zsq (by omega) e.1
def ZmZ (n:Nat) (l:ak) (z:Nat) (p:ai) (st:St) (hz:z=1\/p=none) (hs:Sl st p (ints l)) (hl:l.length<1000:=by omega) (hn:2500<=n:=by omega):
  Ok (λo=>∃s',o=(.val (yY (zY l)),s')/\aB st s') (run Bd n 215 [.slice z p l.length] st):=by
 obtain⟨n,rfl⟩: ∃k,n=k+3:=⟨n-3,by omega⟩;obtain⟨R,hR⟩: ∃R,zY l=R:=⟨_,rfl⟩;rw[hR];unfold zY at hR;rw[Ze,h.aeK];unfold SS bV aA tp jf uI Zn bq Q_ cM vV pP eI Li ZC Ls Lb;simp only[Zg 1 z p _ hz,aq];rw[Za];have mw: ∀s,aB st s->R=none->Ok (λo=>∃s',o=(.val (yY R),s')/\aB st s') ((ay [.str (bs []),.bool false]:M ah) s):=λs iB e=>by
  rw[e,Zd];exact .mk ⟨s,rfl,iB⟩
 by_cases h1:1<=l.length;rotate_left
 .rw[ax (show((l.length:Nat):Int)<1 by omega),ae]
  simp only[au,aq,ae];refine mw st (.refl st) ?_;rw[aF h1,gf,af]at hR;exact hR.symm
 by_cases sE:l.length<=16;rotate_left
 .rw[aF (show ¬((l.length:Nat):Int)<1 by omega),af,ax (show((l.length:Nat):Int)>16 by omega)]
  simp only[au,aq,ae];refine mw st (.refl st) ?_;rw[aF sE,gf,C1,af]at hR;exact hR.symm
 rw[ax h1,ax sE,dF,dF]at hR;rw[aF (show ¬((l.length:Nat):Int)<1 by omega),af,aF (show ¬((l.length:Nat):Int)>16 by omega)];simp only[au,aq];rw[af,Za];have ahB: ∀i,i<=l.length->sv l i=false->R=none:=λi hi e=>by
  cases hf:sv l l.length with
  |true=>rw[Zsq hi hf]at e;cases e
  |false=>rw[hf,af]at hR;exact hR.symm
 refine Zi _ (λq y s=>∃i:Nat,y=[.str (js (l.take i)),.int .i64 (i:Int)]/\i<=l.length/\l.length-i<=q/\aB st s/\sv l i=true) ?_ l.length (n+2) _ _ ⟨0,rfl,cz _,by omega,.refl st,rfl⟩ (by omega);rintro q _ s ⟨i,rfl,hi,hq,iB,dt⟩ rec aN;simp only[bR,av,aq];by_cases aw:i<l.length
 .have dA:=hs.mono iB
  obtain⟨i1,o1,rfl⟩:=dA.cH (by simp[ints];omega);have yv:l.getD i 0=l[i]:=by rw[dW,cq aw];rfl
  have JP:=H5 l aw;have fP:sv l (i+1)=(jO l[i]&& !decide (l[i]∈l.take i)):=by
   show(sv l i&&_)=_;rw[dt,dF,yv]
  have da:(ints l)[i]? =some (.int .i64 l[i]):=ZD aw;rw[ax (show(i:Int)<(l.length:Int) by omega),ae,Za,bd,Zb (Zj aw)];simp only[bp];rw[dA.dJ da];simp only[bg];obtain⟨x,hx⟩: ∃x,l[i]=x:=⟨_,rfl⟩;rw[hx]at da JP fP⊢;rw[Zk (HP (n+1) x s)];simp only[au,aq];cases hb:jO x with
  |false=>
   rw[bn,ae];grind
  |true=>
   rw[br,af,Za];refine Zi _ (λq y t=>∃k:Nat,y=[.int .i64 (k:Int)]/\k<=i/\i-k<=q/\t=s/\x∉l.take k) ?_ i (n+2) _ _ (by grind) (by omega);rintro q2 _ t ⟨k,rfl,hk,Er,rfl,ot⟩ dw j3;simp only[av,aq];by_cases hlk:k<i
   .have jn:k<l.length:=by omega
    have vo:(ints l)[k]? =some (.int .i64 l[k]):=ZD jn;rw[ax (show(k:Int)<(i:Int) by omega),ae,bd,Zb (Zj jn)];simp only[bp];rw[dA.dJ vo];simp only[bg];rw[bd,Zb (Zj aw)];rw[dA.dJ da];simp only[bg];by_cases he:l[k]=x
    .rw[show(l[k]==x)=true by rw[he];grind,ae]
     refine mw t iB (ahB (i+1) (by omega) ?_);have:x∈l.take i:=by
      rw[<-he];exact List.mem_take_iff_getElem.2 ⟨k,by omega,rfl⟩
     rw[fP,ax this,br,C1]
    .rw[show(l[k]==x)=false from eG.2 he,af,Zc]
     refine j3 (i-(k+1)) _ _ (by omega) ⟨k+1,rfl,by omega,aQ _,rfl,?_⟩;rw[lV jn];grind
   .rw[aF (show ¬(k:Int)<(i:Int) by omega),af]
    have:k=i:=by omega
    subst this;rw[bd,Zb (Zj aw),dA.dJ da];simp only[bg,FI];refine Ok.cv (tt (n+2) _ 2 (tx _) t) λs1 aH=>?_
    simp only[bR,aq];rw[Z5 (by rw[uM,ZA,cX];omega),Zc];exact aN (l.length-(k+1)) _ _ (by omega) ⟨k+1,by rw[JP];rfl,by omega,aQ _,iB.trans aH,by rw[fP,hb,aF ot];rfl⟩
 .rw[aF (show ¬(i:Int)<(l.length:Int) by omega),af]
  have:i=l.length:=by omega
  subst this;rw[rR];rw[dt,ae]at hR;have dA:=uM l;refine Ok.cv (Bu (n+2) 6 l.length (js l) (by omega) s) λs1 aH=>?_
  simp only[bR,aq,Zd];rw[<-hR];exact .mk ⟨s1,rfl,iB.trans aH⟩
def Rs (n a e:Nat) (ha:a<100000) (he:0<e) (vj:e<1000) (st:St) (hn:a+10<=n:=by omega):
  Ok (λo=>o=(.val [.int .i64 (((a+e-1)/e:Nat):Int)],st)) (run Bd n 220 [.int .i64 (a:Int),.int .i64 (e:Int)] st):=by
 obtain⟨n,rfl⟩: ∃k,n=k+2:=⟨n-2,by omega⟩;rw[Ze,h.aeP];unfold SC iX oL cM Li;simp only[av,aq,Za];have hm:(a+e-1)/e<=a:=by
  rcases Bg a with h0|h0
  .subst h0
   rw[eW,Nat.div_eq_of_lt (by omega)];exact aQ _
  .refine Nat.div_le_of_le_mul ?_
   have:1*(e-1)<=a*(e-1):=Fa _ h0;have h2:e*a=a+a*(e-1):=by
    obtain⟨f,rfl⟩: ∃f,e=f+1:=⟨e-1,by omega⟩;rw[Nat.add_sub_cancel,vS,Nat.one_mul,Da f];omega
   omega
 have Oe: ∀k,k*e<a↔k<(a+e-1)/e:=λk=>by
  rw[Nat.lt_iff_add_one_le,Nat.lt_iff_add_one_le,Nat.le_div_iff_mul_le he,vS,Nat.one_mul];omega
 generalize (a+e-1)/e=m at hm Oe;refine Zi _ (λq y s=>∃k:Nat,y=[.int .i64 (k:Int)]/\k<=m/\m-k<=q/\s=st) ?_ m (n+1) _ _ (by grind) (by omega);rintro q _ s ⟨k,rfl,hk,hq,rfl⟩ rec aN;simp only[av,aq];have hke:k*e<=100000*1000:=Nat.mul_le_mul (by omega) (by omega);have hw:ar ((k:Int)*(e:Int))=((k*e:Nat):Int):=by
  rw[show((k:Int)*(e:Int))=((k*e:Nat):Int) by push_cast;rfl];exact Zc
 rw[hw];have:=Oe k;by_cases aw:k*e<a
 .rw[ax (show((k*e:Nat):Int)<(a:Int) by omega),ae,Zc]
  exact aN (m-(k+1)) _ _ (by omega) (by grind)
 .rw[aF (show ¬((k*e:Nat):Int)<(a:Int) by omega),af]
  have jn:k=m:=by
   omega
  rw[jn];simp only[Zd];exact .mk rfl
def ZjC (n a:Nat) (s g:Int) (ha:a<100000) (st:St) (hn:a+20<=n:=by omega):
  Ok (λo=>o=(.val [.int .i64 (((a+383)/384:Nat):Int)],st)) (run Bd n 196 [.agg [.int .i64 (a:Int),.int .i64 s,.int .i64 g]] st):=by
 obtain⟨n,rfl⟩: ∃k,n=k+2:=⟨n-2,by omega⟩;rw[Ze,h.aev];unfold Ri DB cw gJ Li;rw[cT];simp only[av,aq];refine Ok.call (Rs (n+1) a 384 ha (by decide) (by decide) st) ?_;rintro _ rfl;refine⟨_,st,rfl,?_⟩;simp only[av,aq,Zd];exact .mk rfl
def ZjA (n a:Nat) (ha:a<100000) (st:St) (hn:a+20<=n:=by omega):
  Ok (λo=>o=(.val [.int .i64 (((a+6)/7:Nat):Int)],st)) (run Bd n 266 [.int .i64 (a:Int)] st):=by
 obtain⟨n,rfl⟩: ∃k,n=k+2:=⟨n-2,by omega⟩;rw[Ze,h.afv];unfold Rg cP cw gJ Li;simp only[av,aq];refine Ok.call (Rs (n+1) a 7 ha (by decide) (by decide) st) ?_;rintro _ rfl;refine⟨_,st,rfl,?_⟩;simp only[av,aq,Zd];exact .mk rfl
def oW (a:Nat):Nat:=if a=0 then 0 else((a+6)/7+15)/16+1
def Zr6 (n a:Nat) (ha:a<100000) (st:St) (hn:a+40<=n):
  Ok (λo=>o=(.val [.int .i64 (oW a:Int)],st)) (run Bd n 268 [.int .i64 (a:Int)] st):=by
 obtain⟨n,rfl⟩: ∃k,n=k+2:=⟨n-2,by omega⟩;rw[Ze,h.afx];unfold Ss cP cw Li gJ oW;simp only[av,aq];by_cases h0:a=0
 .subst h0
  rw[bE rfl];exact .mk rfl
 .rw[bj h0,show((a:Int)==0)=false from eG.2 (by omega),af]
  refine Ok.call (ZjA (n+1) a ha st) ?_;rintro _ rfl;refine⟨_,st,rfl,?_⟩;simp only[av,aq];refine Ok.call (Rs (n+1) ((a+6)/7) 16 (by omega) (by decide) (by decide) st) ?_;rintro _ rfl;refine⟨_,st,rfl,?_⟩;simp only[av,aq,Zd];refine .mk ?_;rw[Zc];rfl
def or8 {x:Nat} (hx:x<256) (hy:y<256):bits .or .u8 (x:Int) (y:Int)=((x|||y:Nat):Int):=by
 show IntKind.wrap .u8 ((BitVec.ofInt 8 (x:Int)|||BitVec.ofInt 8 (y:Int)).toNat:Int)=_;have e: ∀z:Nat,z<256->(BitVec.ofInt 8 (z:Int)).toNat=z:=by simp
 rw[BitVec.toNat_or,e x hx,e y hy];have h:x|||y<256:=by grind
 show((x|||y:Nat):Int)%256=_;omega
def xR (b:aj) (k:Nat):aj:=b.set (k/8) (UInt8.ofNat ((b.getD (k/8) 0).toNat|||2^(k%8)))
def Mb (b:aj) (k:Nat):(xR b k).length=b.length:=by simp[xR]
def inPlace (p:Nat) (x:Int):Bool:=decide (x>=((384*p:Nat):Int))&&decide (x<((384*p+384:Nat):Int))
def tD (p:Nat):aj->ak->aj
 |b,[]=>b
 |b,x::r=>tD p (bif inPlace p x then xR b (x-((384*p:Nat):Int)).toNat else b) r
def gr (p:Nat) (l:ak):ZP:=⟨p,tD p (List.replicate 48 0) l⟩
def H9 (p:Nat): ∀(l:ak) (b:aj),(tD p b l).length=b.length
 |[],_=>rfl
 |x::r,b=>by
  unfold tD;rw[H9 p r];cases inPlace p x with
  |true=>exact Mb b _
  |false=>rfl
def Zx7 (b:aj) (k:Nat) (c:UInt8):bU (b.set k c)=(bU b).set k (.int .u8 c.toNat):=by
 simp[bU]
def ZlG (n p:Nat) (l:ak) (a:ai) (z:Nat) (st:St) (hz:z=1\/a=none) (hs:Sl st a (ints l)) (hp:p<1000) (hl:l.length<100000) (hx: ∀x∈l,0<=x/\x<1000000) (hn:l.length+10<=n):
  Ok (λo=>o=(.val [.agg (ZW (gr p l))],st)) (run Bd n 192 [.int .i64 (p:Int),.slice z a l.length] st):=by
 obtain⟨n,rfl⟩: ∃k,n=k+2:=⟨n-2,by omega⟩;rw[Ze,h.aer];unfold Sw bV cP Zn aA lF Lb;simp only[av,Zg 1 z a _ hz,aq];rw[Za];have cG:ar (384*(p:Int))=((384*p:Nat):Int):=by
  rw[show(384*(p:Int))=((384*p:Nat):Int) by omega];exact Zc
 have fR:ar (((384*p:Nat):Int)+384)=((384*p+384:Nat):Int):=by
  rw[Zc];omega
 simp only[cG,fR];obtain⟨G,hG⟩: ∃G,tD p (List.replicate 48 0) l=G:=⟨_,rfl⟩;have hR:gr p l=⟨p,G⟩:=by unfold gr;rw[hG]
 rw[hR];refine Zi _ (λq y s=>∃(i:Nat) (b:aj),y=[.agg (.int .i64 (p:Int)::bU b),.int .i64 (i:Int)]/\i<=l.length/\l.length-i<=q/\s=st/\b.length=48/\tD p b (l.drop i)=G) ?_ l.length (n+1) _ _ ⟨0,List.replicate 48 0,rfl,cz _,by omega,rfl,oF,hG⟩ (by omega);rintro q _ s ⟨i,b,rfl,hi,hq,rfl,hb,aP⟩ rec aN;have ig:(bU b).length=48:=by rw[Zu,hb]
 rw[cT];simp only[av,aq];rw[bI ig];by_cases aw:i<l.length
 .obtain⟨i1,o1,rfl⟩:=hs.cH (by simp[ints];omega)
  have da:(ints l)[i]? =some (.int .i64 l[i]):=ZD aw;have fW:l.drop i=l[i]::l.drop (i+1):=iV aw;have iO:l[i]∈l:=kz aw;rw[fW]at aP;obtain⟨x,O0⟩: ∃x,l[i]=x:=⟨_,rfl⟩;rw[O0]at da aP iO;obtain⟨OZ,AL⟩:=hx x iO;unfold tD at aP;rw[ax (show(i:Int)<(l.length:Int) by omega),ae,bd,Zb (Zj aw)];simp only[bp];rw[hs.dJ da];simp only[bg];have jA:ar ((i:Int)+1)=((i+1:Nat):Int):=Zc;rw[jA];refine Ok.join λaI jU=>?_
  have hA: ∀c,inPlace p x=c->Ok (λo=>o=(.val [.agg (ZW ⟨p,G⟩)],s)) (aI [.bool c] s):=by
   intro c hc;rw[jU];simp only[au,aq];rw[hc]at aP;rw[Za];cases c with
   |false=>
    rw[af]at aP;rw[af];show Ok _ (ba [.agg (.int .i64 (p:Int)::bU b)] _ s);rw[cT];simp only[av];rw[bI ig];simp only[aq];exact aN (l.length-(i+1)) _ _ (by omega) (by grind)
   |true=>
    rw[ae]at aP;unfold inPlace at hc;rw[aY,bu,bu]at hc;obtain⟨k,hk⟩: ∃k:Nat,x-((384*p:Nat):Int)=(k:Int):=by grind
    rw[hk,bp]at aP;have Ku:ar (x-((384*p:Nat):Int))=(k:Int):=by rw[hk];exact Zc
    have hdv:ar ((k:Int).tdiv 8)=((k/8:Nat):Int):=by
     rw[show(k:Int).tdiv 8=((k/8:Nat):Int)from rfl];exact Zc
    have lu:(k:Int).tmod 8=((k%8:Nat):Int):=rfl;rw[ae,bd,Zb (Zj aw),hs.dJ da];simp only[bg,Ku,hdv,lu,bp];have hk8:k/8<48:=by omega
    have Au:b[k/8]? =some (b.getD (k/8) 0):=by
     rw[dW,cq (by omega)];rfl
    have Jz:=(b.getD (k/8) 0).toNat_lt;rw[Zb (show aR ((k/8:Nat):Int) 48=true from Zj hk8),hJ (i:=k/8*1) (by rw[cR];exact U6 Au)];simp only[bg];rw[Zb (ax (by omega)),Zb (show aR ((k/8:Nat):Int) 48=true from Zj hk8),Z5 (by omega)];have h28:2^(k%8)<=2^7:=nT (by decide) (by omega);have Ki:IntKind.wrap .u8 (1*2^(min (k%8) 8))=((2^(k%8):Nat):Int):=by
     rw[nS (by omega),Int.one_mul,show((2:Int)^(k%8))=((2^(k%8):Nat):Int) by push_cast;rfl];generalize 2^(k%8)=w at h28;show((w:Nat):Int)%256=_;omega
    rw[Ki,or8 Jz (by omega)];have hor:(b.getD (k/8) 0).toNat|||2^(k%8)<256:=Nat.or_lt_two_pow (n:=8) Jz (by omega);have dh:cE (bU b) (k/8*1) [.int .u8 (((b.getD (k/8) 0).toNat|||2^(k%8):Nat):Int)]=bU (xR b k):=by
     rw[cR,BL _ _ _ (by omega)];unfold xR;rw[Zx7];congr 2;show _=(((((b.getD (k/8) 0).toNat|||2^(k%8))%256:Nat)):Int);omega
    rw[dh];show Ok _ (ba [.agg (.int .i64 (p:Int)::bU (xR b k))] _ s);rw[cT];simp only[av];have GV:(bU (xR b k)).length=48:=by rw[Zu,Mb,hb]
    rw[bI GV];simp only[aq];exact aN (l.length-(i+1)) _ _ (by omega) ⟨i+1,xR b k,rfl,by omega,aQ _,rfl,by rw[Mb,hb],aP⟩
  cases tX:decide (x>=((384*p:Nat):Int))with
  |false=>
   rw[af];exact hA false (by unfold inPlace;rw[tX,gf])
  |true=>
   rw[ae,bd,Zb (Zj aw),hs.dJ da];simp only[bg];exact hA _ (by unfold inPlace;rw[tX,dF])
 .rw[aF (show ¬(i:Int)<(l.length:Int) by omega),af]
  rw[lU (by omega)]at aP;rw[cT];simp only[av];rw[bI ig];simp only[aq];rw[bI (by simp[ig]),Zd];refine .mk ?_;rw[<-aP];rfl
def uL (x:ZP):aj:=iS 4 x.no x.eY
def ZmI (n:Nat) (x:ZP) (hl:x.eY.length=48) (st:St) (hn:400<=n:=by omega):
  Ok (λo=>∃s',o=(.val [.str (uL x)],s')/\aB st s') (run Bd n 193 [.agg (ZW x)] st):=by
 obtain⟨n,rfl⟩: ∃k,n=k+2:=⟨n-2,by omega⟩;rw[Ze,h.aes];unfold Tb Zm jf pP Ls ZW;have ig:(bU x.eY).length=48:=by rw[Zu,hl]
 rw[cT];simp only[av];rw[bI ig];simp only[aq];rw[bI (n:=49) (by simp[ig]),Zz];rw[Zo (i:=st.length) (f:=false) (all:= .int .i64 x.no::bU x.eY) (d:= .int .i64 x.no) (by simp) rfl];simp only[bg];have dt:(DV.int .i64 x.no::bU x.eY).length=49:=by simp[ig]
 rw[Iy (by rw[dt];omega),Iy (by rw[dt];omega)];have GB:(List.drop 1 (DV.int .i64 x.no::bU x.eY)).take 48=ZQ x.eY:=by
  rw[List.drop_succ_cons,dK,dG (by omega),ll]
 rw[GB,oJ];refine Ok.cv (Bu (n+1) 4 x.no x.eY (by omega) _) λs1 aH=>?_
 simp only[bR,aq,Zd];exact .mk ⟨s1,rfl,(aB.new _ _).trans aH⟩
structure uH (x:cy):Prop where
 s0:1<=x.seq
 s1:x.seq<=4611686018427387904
 g:oY x.blocks x.de x.g=true
 u0:0<=x.used
 u1:x.used<=x.de
 f0:0<=x.free
 f1:x.free<=x.used
 t0:x.used=0->x.cc=0
 t1:0<x.used->nJ x x.cc=true
 d:x.dir≠0->nJ x x.dir=true
 len:((x.aJ.length:Nat):Int)=BJ x.blocks x.de x.g
 ch: ∀i,i<x.aJ.length->nJ x (x.aJ.getD i 0)=true/\x.aJ.getD i 0∉x.aJ.take i
def Zsp (x:cy):qE x=true↔ ∀i,i<x.aJ.length->nJ x (x.aJ.getD i 0)=true/\x.aJ.getD i 0∉x.aJ.take i:=by
 simp[qE]
def BB (x:cy):ZU x=true↔uH x:=by
 unfold ZU;rw[aY,aY,Zsp,lD,lD];simp only[C2,zw,Bool.not_eq_false'];constructor
 .rintro⟨⟨a1,a2,a3,a4,a5,a6,a7⟩,⟨b1,b2,b3,b4⟩,c⟩
  refine⟨by omega,by omega,a3,by omega,by omega,by omega,by omega,λh=>?_,λh=>?_,λh=>?_,?_,c⟩
  .rw[h]at b1
   simpa using b1
  .rw[ax h,ae]at b2
   simpa using b2
  .rw[show(x.dir==0)=false from eG.2 h,bn,ae]at b3
   simpa using b3
  .simpa using b4
 .intro h
  refine⟨⟨by have:=h.s0;omega,by have:=h.s1;omega,h.g,by have:=h.u0;omega,by have:=h.u1;omega,by have:=h.f0;omega,by have:=h.f1;omega⟩,⟨?_,?_,?_,?_⟩,h.ch⟩
  .by_cases hu:x.used=0
   .rw[h.t0 hu];cases(x.used==0)<;>rfl
   grind
  .by_cases hu:0<x.used
   .rw[h.t1 hu];cases decide (x.used>0)<;>rfl
   grind
  .by_cases hu:x.dir=0
   .rw[hu];rfl
   .rw[h.d hu];cases(!(x.dir==0))<;>rfl
  simp[h.len]
def US (x:cy) (k:Int):nJ x k=true↔2<=k/\k<x.blocks:=by
 simp[nJ]
def Tv {b s g:Int} (h:oY b s g=true):BJ b s g=(((b.toNat+383)/384:Nat):Int):=by
 obtain⟨g1,g2,_⟩:=Z4 h;unfold BJ rJ;rw[h,ae];obtain⟨m,rfl⟩: ∃m:Nat,b=m:=⟨b.toNat,by omega⟩;rw[bp,Zc (x:=(m:Int)+384),Zc (x:=(m:Int)+384-1),show((m:Int)+384-1)=((m+383:Nat):Int) by omega,show(((m+383:Nat):Int).tdiv 384)=(((m+383)/384:Nat):Int)from rfl];exact Zc
def Zyy {Q:Out ah×St->Prop} {Kn:ah->M ah} (n:Nat) (b:Int) (l:ak) (p:ai) (s:St) (hs:Sl s p (ints l)) (hl:l.length<5000) (hn:l.length<n)
  (cA: ∀k∈l,¬(2<=k/\k<b)->Ok Q ((ay [.bool false]:M ah) s)) (ab9:(∀k∈l,2<=k/\k<b)->Ok Q (Kn [] s)):
  Ok Q (cS (λaV st=>
       aD .i64 st λi st=>
      aL st<|
      bif decide (i<(l.length:Int))then
       bH p λi1 o=>
      aC (aR i l.length)<|
      bD i1 (i.toNat*1+o) λd=>
      cY .i64 d λx=>
      cK (λst=>gC st λb7 st=>aL st<|
       bif b7 then
       ay [.bool false]
      else
       aV [.int .i64 (ar (i+1))]) λkQ=>
      bif decide (x<2)then
       kQ [.bool true]
      else
       bH p λi2 o1=>
      aC (aR i l.length)<|
      bD i2 (i.toNat*1+o1) λd1=>
      cY .i64 d1 λx1=>
      kQ [.bool (decide (x1>=b))]
      else
       Kn []) n [.int .i64 0] s):=by
 refine Zi _ (λq y t=>∃i:Nat,y=[.int .i64 (i:Int)]/\i<=l.length/\l.length-i<=q/\t=s/\∀k∈l.take i,2<=k/\k<b) ?_ l.length n _ _ (by grind) hn;rintro q _ t ⟨i,rfl,hi,hq,rfl,dt⟩ rec aN;simp only[av,aq];by_cases aw:i<l.length
 .obtain⟨i1,o1,rfl⟩:=hs.cH (by simp[ints];omega)
  have da:(ints l)[i]? =some (.int .i64 l[i]):=ZD aw;have fZ:l.take (i+1)=l.take i++[l[i]]:=lV aw;have iO:l[i]∈l:=kz aw;rw[ax (show(i:Int)<(l.length:Int) by omega),ae,bd,Zb (Zj aw)];simp only[bp];rw[hs.dJ da];simp only[bg];generalize l[i]=x at da fZ iO;rw[Za];by_cases h2:x<2
  .rw[ax h2,ae]
   simp only[au,aq,ae];grind
  .rw[aF h2,af,bd,Zb (Zj aw),hs.dJ da]
   simp only[bg,au,aq];by_cases h3:x>=b
   .rw[ax h3,ae]
    grind
   .rw[aF h3,af,Zc]
    refine aN (l.length-(i+1)) _ _ (by omega) ⟨i+1,rfl,by omega,aQ _,rfl,λk hk=>?_⟩;rw[fZ]at hk;grind
 .rw[aF (show ¬(i:Int)<(l.length:Int) by omega),af]
  rw[dG (by omega)]at dt;exact ab9 dt
def Rl (n:Nat) (x:cy) (p:ai) (st:St) (hs:Sl st p (ints x.aJ)) (hl:x.aJ.length<1000:=by omega) (hn:5000<=n:=by omega):
  Ok (λo=>∃s',o=(.val [.bool (ZU x)],s')/\aB st s') (run Bd n 195 [.agg (dj x p)] st):=by
 obtain⟨n,rfl⟩: ∃k,n=k+2:=⟨n-2,by omega⟩;rw[Ze,h.aeu];unfold RO xC aA fB Q_ cM Zn kb lW bq Lb Li dY aZ uQ dj;rw[cT];simp only[av,aX,aq];have hF: ∀s,aB st s->¬uH x->Ok (λo=>∃s',o=(.val [.bool (ZU x)],s')/\aB st s') ((ay [.bool false]:M ah) s):=λs hp e=>by
  have:ZU x=false:=by
   cases hs:ZU x with
   |false=>rfl
   |true=>exact absurd ((BB x).1 hs) e
  rw[this,Zd];exact .mk ⟨s,rfl,hp⟩
 rw[Za];by_cases h1:x.seq<1
 .rw[ax h1,ae]
  simp only[au,aq];rw[Za,ae];simp only[au,aq];rw[ae];exact hF st (.refl st) λk=>by have:=k.s0;omega
 rw[aF h1,af];simp only[au,aq];rw[Za];by_cases h2:x.seq>4611686018427387904
 .rw[ax h2,ae]
  simp only[au,aq];rw[ae];exact hF st (.refl st) λk=>by have:=k.s1;omega
 rw[aF h2,af,Zk (ZkK n x.blocks x.de x.g st)];simp only[au,aq];cases hg:oY x.blocks x.de x.g with
 |false=>
  rw[bn,ae];exact hF st (.refl st) λk=>by have:=k.g;rw[hg]at this;cases this
 |true=>
 obtain⟨g1,g2,g3,g4,g5,g6⟩:=Z4 hg;rw[br,af,Za];by_cases h3:x.used<0
 .rw[ax h3,ae]
  simp only[au,aq];rw[Za,ae];simp only[au,aq];rw[Za,ae];simp only[au,aq];rw[Za,ae];simp only[au,aq];rw[ae];exact hF st (.refl st) λk=>by have:=k.u0;omega
 rw[aF h3,af];by_cases h4:x.used>x.de
 .rw[ax h4]
  simp only[au,aq];rw[Za,ae];simp only[au,aq];rw[Za,ae];simp only[au,aq];rw[Za,ae];simp only[au,aq];rw[ae];exact hF st (.refl st) λk=>by have:=k.u1;omega
 rw[aF h4];simp only[au,aq];rw[Za,af];by_cases h5:x.free<0
 .rw[ax h5]
  simp only[au,aq];rw[Za,ae];simp only[au,aq];rw[Za,ae];simp only[au,aq];rw[ae];exact hF st (.refl st) λk=>by have:=k.f0;omega
 rw[aF h5];simp only[au,aq];rw[Za,af];by_cases h6:x.free>x.used
 .rw[ax h6]
  simp only[au,aq];rw[Za,ae];simp only[au,aq];rw[ae];exact hF st (.refl st) λk=>by have:=k.f1;omega
 rw[aF h6];simp only[au,aq];rw[Za,af];obtain⟨m,hm⟩: ∃m:Nat,x.blocks=m:=⟨x.blocks.toNat,by omega⟩;have yq:=Tv hg;rw[hm,bp]at yq;rw[hm];refine Ok.NH (ZjC (n+1) m x.de x.g (by omega) st) ?_;rintro _ rfl;refine⟨_,st,rfl,?_⟩;simp only[av,au,aq];by_cases h7:((x.aJ.length:Nat):Int)=(((m+383)/384:Nat):Int);rotate_left
 .rw[show(((x.aJ.length:Nat):Int)==(((m+383)/384:Nat):Int))=false from eG.2 h7,bn,ae]
  exact hF st (.refl st) λk=>by have:=k.len;rw[hm,yq]at this;exact h7 this
 rw[show(((x.aJ.length:Nat):Int)==(((m+383)/384:Nat):Int))=true by rw[h7];simp,br,af];have fP: ∀k,nJ x k=true↔2<=k/\k<(m:Int):=λk=>by rw[US,hm]
 refine Ok.join λgN XA=>?_
 have A7: ∀(q:ai) (z:Nat) (l:ak) (s:St),bm st s q (ints l)->(z=1\/q=none)->l.length<=1->(x.used=0->x.cc=0)->(l=if x.used=0 then[]else[x.cc])->Ok (λo=>∃s',o=(.val [.bool (ZU x)],s')/\aB st s') (gN [.slice z q l.length] s):=by
  intro q z l s ho hz pw G9 hle;rw[XA];simp only[Zg 1 z q _ hz,aq];refine Ok.join λiC XB=>?_
  have A8: ∀(q:ai) (l:ak) (s:St),bm st s q (ints l)->l.length<=2->(l=(if x.used=0 then[]else[x.cc])++(if x.dir=0 then[]else[x.dir]))->Ok (λo=>∃s',o=(.val [.bool (ZU x)],s')/\aB st s') (iC [.slice 1 q l.length] s):=by
   intro q l s ho rj hle;rw[XB];simp only[aX,aq];refine Ok.join λiD Og=>?_
   have ag2: ∀i k,i<x.aJ.length->k<i->x.aJ[k]? =x.aJ[i]? ->¬uH x:=λi k hi hk e hS=>by
    have:=(hS.ch i hi).2;rw[dW,cq hi]at this;refine this (List.mem_take_iff_getElem.2 ⟨k,by omega,?_⟩);rw[cq (by omega),cq hi]at e;exact HE e
   refine Zi _ (λr y t=>∃(i z:Nat) (q:ai),y=[.slice z q (l++x.aJ.take i).length,.int .i64 (i:Int)]/\(z=1\/q=none)/\i<=x.aJ.length/\x.aJ.length-i<=r/\bm st t q (ints (l++x.aJ.take i))/\∀j,j<i->x.aJ.getD j 0∉x.aJ.take j) ?_ x.aJ.length (n+1) _ _ ⟨0,1,q,by simp,.inl rfl,cz _,by omega,by simpa using ho,by omega⟩ (by omega);rintro r _ t ⟨i,z,q,rfl,hz,hi,hr,ho,N9⟩ rec aN;simp only[av,Zg 1 z q _ hz,aq];have cg:=hs.mono ho.1;by_cases aw:i<x.aJ.length
   .obtain⟨i1,o1,rfl⟩:=hs.cH (by simp[ints];omega)
    have da:(ints x.aJ)[i]? =some (.int .i64 x.aJ[i]):=ZD aw;have fZ:x.aJ.take (i+1)=x.aJ.take i++[x.aJ[i]]:=lV aw;rw[ax (by omega),ae,Za,bd,Zb (Zj aw)];simp only[bp];rw[cg.dJ da];simp only[bg];have gp:(l++x.aJ.take i).length<=2000:=by rw[bB,cX];omega
    obtain⟨q2,t2,du,ri,he⟩:=ho.CP (β:=ah) (sz:=1) (n:=(l++x.aJ.take i).length) (lim:=8796093022208) [.int .i64 x.aJ[i]] (xp 0) (by simp[ints]) rfl (by omega);refine Eq.mpr (congrArg (Ok _) (he _)) ?_;rw[Za];have Kl:=hs.mono du.1;refine Zi _ (λq y u=>∃k:Nat,y=[.int .i64 (k:Int)]/\k<=i/\i-k<=q/\u=t2/\x.aJ[i]∉x.aJ.take k) ?_ i (n+1) _ _ ⟨0,rfl,cz _,by omega,rfl,by simp⟩ (by omega);rintro r2 _ u ⟨k,rfl,hk,ik,rfl,ot⟩ dw j3;simp only[av,aq];by_cases hlk:k<i
    .have jn:k<x.aJ.length:=by omega
     have vo:(ints x.aJ)[k]? =some (.int .i64 x.aJ[k]):=ZD jn;rw[ax (by omega),ae,bd,Zb (Zj jn)];simp only[bp];rw[Kl.dJ vo];simp only[bg];rw[bd,Zb (Zj aw),Kl.dJ da];simp only[bg];by_cases he:x.aJ[k]=x.aJ[i]
     .rw[show(x.aJ[k]==x.aJ[i])=true by rw[he];exact xq _,ae]
      exact hF u du.1 (ag2 i k aw hlk (by rw[cq jn,cq aw,he]))
     .rw[show(x.aJ[k]==x.aJ[i])=false from eG.2 he,af,Zc]
      refine j3 (i-(k+1)) _ _ (by omega) ⟨k+1,rfl,by omega,aQ _,rfl,?_⟩;rw[lV jn];intro lx;rcases gx.1 lx with lx|lx
      .exact ot lx
      .exact he (cB.1 lx).symm
    .rw[aF (by omega),af]
     have:k=i:=by omega
     subst this;simp only[aX,aq];rw[Zc];refine aN (x.aJ.length-(k+1)) _ _ (by omega) ⟨k+1,1,q2,?_,.inl rfl,by omega,aQ _,?_,λj hj=>?_⟩
     .rw[fZ,<-fI,bB (as:=l++x.aJ.take k)];rfl
     .rw[fZ,<-fI]
      unfold ints at du⊢;rw[fA (l₁:=l++x.aJ.take k)];exact du
     .by_cases vr:j=k
      .subst vr
       rw[dW,cq aw];exact ot
      .exact N9 j (by omega)
   .rw[aF (by omega),af]
    have:i=x.aJ.length:=by omega
    subst this;rw[rR]at ho⊢;rw[Og];simp only[aX,aq];refine Ok.join λkl Xy=>?_
    refine Zyy (Kn:=kl) (n+1) m (l++x.aJ) q t ho.sl (by rw[bB];omega) (by rw[bB];omega) ?_ ?_
    .intro k hk Gz
     refine hF t ho.1 λhS=>Gz ?_
     rw[<-fP];rcases gx.1 hk with hk|hk
     .rw[hle]at hk
      rcases gx.1 hk with hk|hk
      .by_cases hu:x.used=0
       .rw[bE hu]at hk;cases hk
       .rw[bj hu]at hk;rw[cB.1 hk];exact hS.t1 (by omega)
      .by_cases hu:x.dir=0
       .rw[bE hu]at hk;cases hk
       .rw[bj hu]at hk;rw[cB.1 hk];exact hS.d hu
     .obtain⟨i,hi,rfl⟩:=List.mem_iff_getElem.1 hk
      have:=(hS.ch i hi).1;rw[dW,cq hi]at this;exact this
    .intro dt
     have:ZU x=true:=by
      refine(BB x).2 ⟨by omega,by omega,hg,by omega,by omega,by omega,by omega,G9,λhu=>?_,λhu=>?_,by rw[hm,yq];exact h7,λi hi=>⟨?_,N9 i hi⟩⟩
      .rw[fP]
       exact dt _ (gx.2 (.inl (by rw[hle,bj (by omega)];simp)))
      .rw[fP]
       exact dt _ (gx.2 (.inl (by rw[hle,bj hu];simp)))
      .rw[fP,dW,cq hi]
       exact dt _ (gx.2 (.inr (kz hi)))
     rw[Xy];simp only[aq];rw[this,Zd];exact .mk ⟨t,rfl,ho.1⟩
  by_cases yr:x.dir=0
  .rw[show(!(x.dir==0))=false by rw[yr];rfl,af]
   grind
  .rw[show(!(x.dir==0))=true by rw[lD];grind,ae]
   obtain⟨q2,t2,du,ri,he⟩:=ho.CP (β:=ah) (sz:=1) (n:=l.length) (lim:=8796093022208) [.int .i64 x.dir] (xp 0) (by simp[ints]) rfl (by omega);refine Eq.mpr (congrArg (Ok _) (he _)) ?_;have:=A8 q2 (l++[x.dir]) t2 (by unfold ints at du⊢;rw[fA];exact du) (by simp;omega) (by rw[bj yr,<-hle]);rw[bB]at this;exact this
 by_cases ug:x.used=0
 .rw[show(x.used==0)=true by rw[ug];rfl,ae]
  by_cases hfn:x.cc=0
  .rw[show(!(x.cc==0))=false by rw[hfn];rfl,af]
   exact A7 none 0 [] st (bm.nil (.refl st)) (.inr rfl) (by simp) (λ_=>hfn) (by rw[bE ug])
  .rw[show(!(x.cc==0))=true by rw[lD];grind,ae]
   exact hF st (.refl st) λk=>hfn (k.t0 ug)
 .rw[show(x.used==0)=false from eG.2 ug,af]
  obtain⟨q2,t2,du,ri,he⟩:=(bm.nil (.refl st)).CP (β:=ah) (sz:=1) (n:=0) (lim:=8796093022208) [.int .i64 x.cc] (xp 0) rfl rfl (by omega);refine Eq.mpr (congrArg (Ok _) (he _)) ?_;exact A7 q2 1 [x.cc] t2 du (.inl rfl) (by simp) (λe=>absurd e ug) (by rw[bj ug])
def Zz2 (k m:Nat) (hk:k<64) (h:2^k*(2*m+1)<18446744073709551616):bits .and .u64 ((2^k*(2*m+1):Nat):Int) (IntKind.wrap .u64 (0-((2^k*(2*m+1):Nat):Int)))=((2^k:Nat):Int):=by
 have hp:0<2^k*(2*m+1):=by grind
 have hn:=Zze k m 64 hk (by omega);generalize 2^k*(2*m+1)=w at h hp hn⊢;have e:IntKind.wrap .u64 (0-(w:Int))=((2^64-w:Nat):Int):=by
  show(0-(w:Int))%18446744073709551616=_;omega
 rw[e,Zxl h,hn]
def Ho (k:Nat):Nat:=(2^k*285870213051353865%18446744073709551616)/288230376151711744
def aab (d:Option DV) (k:Nat):Bool:=match d with
 |some (.int .u8 n)=>n==(k:Int)
 |_=>false
def ZyR {d:Option DV} (h:aab d k=true):d=some (.int .u8 (k:Int)):=by
 unfold aab at h;grind
def ZwL: ∀k,k<64->Ho k<64/\aab (Pz[Ho k]?) k=true:=by decide+kernel
def Zz7 (k:Nat) (h:k<64):Ho k<64/\Pz[Ho k]? =some (.int .u8 (k:Int)):=⟨(ZwL k h).1,ZyR (ZwL k h).2⟩
def ZyC (x c:Nat):(IntKind.wrap .u64 ((x:Int)*((c:Nat):Int))).fdiv (2^58)=((x*c%18446744073709551616/288230376151711744:Nat):Int):=by
 have e1:((x:Int)*((c:Nat):Int))=((x*c:Nat):Int):=by push_cast;rfl
 have e2:(2:Int)^58=((288230376151711744:Nat):Int):=by decide
 rw[e1,Zzd,e2,tz]
def acJ:P1 Bd:=by
 intro n k m st ht hk hw;rw[Ze,h.e86];have hand:=Zz2 k m hk hw;have hp:0<2^k*(2*m+1):=by grind
 generalize 2^k*(2*m+1)=w at hand hp hw;obtain⟨h1,h2⟩:=Zz7 k hk;have Ki:(IntKind.wrap .u64 (((2^k:Nat):Int)*285870213051353865)).fdiv (2^58)=((Ho k:Nat):Int):=ZyC (2^k) 285870213051353865;unfold HM Wd;simp only[av,aq];rw[hand,Ki,show((w:Int)==0)=false from eG.2 (by omega),af,Zb (show aR ((Ho k:Nat):Int) 64=true from Zj h1),bp,cR,gV];rw[Zo (i:=2) (f:=true) (all:=Pz) (d:= .int .u8 (k:Int)) (ht 2 _ rfl) h2];simp only[bg,Zd];rw[Zc]
end Go.Gv.F
