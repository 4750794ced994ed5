/- States alike: the program's own comparison. -/
import Derived.Test.YtegglibipjjblaaGreatDoorGvZMc
set_option linter.all false
namespace Go.Gv.F
open Go.Gv
variable {β:Type}
variable {f g:Bool} {i i2 j j2 k m m2 o y:Nat} {V W:al}
theorem Zw6 {s:St} {ds:ah} {xs:List dP} {x:dP} (hs:Sl s (some (i,o)) ds) (hh:kB s ds xs) (e:xs[j]? =some x): ∃z p,(z=4\/p=none)/\Sl s p (bY x.cj)/\∀K:ah->M β,bS i (j*2+o) 2 K s=K (ml x z p) s:=by
 have⟨z,p,hz,h1,_,_,h2⟩:=hh.get e;have hj:j<xs.length:=by grind
 exact⟨z,p,hz,h2,λK=>by rw[hs.yj (k:=j*2) (n:=2) (by rw[hh.len];omega) K,h1]⟩
theorem wa (w j:Nat):eE w j=w.testBit j:=by rw[Nat.testBit_eq_decide_div_mod_eq];rfl
theorem ZuE: ∀(w:Nat),0<w->∃k m,w=2^k*(2*m+1)
 |0,h=>absurd h (by decide)
 |w+1,_=>by
  by_cases h:(w+1)%2=1
  .exact⟨0,(w+1)/2,by omega⟩
  .have⟨k,m,e⟩:=ZuE ((w+1)/2) (by omega)
   exact⟨k+1,m,by rw[uz,Nat.mul_right_comm,<-e];omega⟩
termination_by w=>w
decreasing_by omega
theorem zN (k a j:Nat):(2^k*a).testBit j=(decide (k<=j)&&a.testBit (j-k)):=by
 rw[Nat.testBit_two_pow_mul]
theorem IH (m i:Nat):(2*m+1).testBit i=(decide (i=0)||(2*m).testBit i):=by
 cases i with
 |zero=>simp[Nat.testBit_zero]
 |succ i=>
  rw[Nat.testBit_succ,Nat.testBit_succ,show(2*m+1)/2=m by omega,show 2*m/2=m by omega];simp
theorem ZqK (m:Nat):(2*m).testBit 0=false:=by simp[Nat.testBit_zero]
theorem DF (k a b j:Nat) (h:b<2^k):(2^k*a+b).testBit j=if j<k then b.testBit j else a.testBit (j-k):=by
 rw[Nat.testBit_two_pow_mul_add a h]
theorem Zyz (k m:Nat):2^k*(2*m+1)&&& (2^k*(2*m+1)-1)=2^k*(2*m):=by
 have hp:0<2^k:=Nat.two_pow_pos k;have e:2^k*(2*m+1)-1=2^k*(2*m)+(2^k-1):=by rw[Nat.mul_add,cR];omega
 rw[e];refine Dc λj=>?_
 rw[HG,zN,DF k _ _ j (by omega),zN];by_cases hj:j<k
 .rw[aF (by omega)];simp
 grind[IH,ZqK]
theorem Zzy (k m n:Nat) (hk:k<n) (h:2^k*(2*m+1)<2^n):2^k*(2*m+1)&&& (2^n-2^k*(2*m+1))=2^k:=by
 have hn:2^n=2^k*(2*2^(n-k-1)):=by rw[<-Nat.pow_succ',<-Nat.pow_add];congr 1;omega
 rw[hn]at h⊢;have hm:2*m+1<2*2^(n-k-1):=Nat.lt_of_mul_lt_mul_left h;have fw:m<2^(n-k-1):=by omega
 rw[<-Nat.mul_sub,show 2*2^(n-k-1)-(2*m+1)=2*(2^(n-k-1)-(m+1))+1 by omega];refine Dc λj=>?_
 rw[HG,zN,zN,Nat.testBit_two_pow,IH,IH];by_cases hj:k<=j
 .rw[ax hj]
  by_cases h0:j=k
  .subst h0;simp
  .rw[aF (show ¬k=j by omega),aF (show ¬j-k=0 by omega)]
   have⟨i,hi⟩: ∃i,j-k=i+1:=⟨j-k-1,by omega⟩;rw[hi,Nat.testBit_succ,Nat.testBit_succ,Nat.mul_div_cancel_left _ (by decide),Nat.mul_div_cancel_left _ (by decide),Nat.testBit_two_pow_sub_succ fw];cases m.testBit i<;>simp
 grind
def oh (w:Nat):al:=(List.range 64).filter (eE w)
theorem Zvx:oh 0=[]:=by
 rfl
theorem Zxw (k n:Nat) (h:k<n):List.range n=List.range k++k::List.range' (k+1) (n-k-1):=by
 have:n=k+(1+(n-k-1)):=by omega
 rw[List.range_eq_range',List.range_eq_range']
 conv=>lhs;rw[this]
 rw[<-List.range'_append_1,tm 1,Lv,eO]
theorem Zvs (k m:Nat) (hk:k<64):oh (2^k*(2*m+1))=k::oh (2^k*(2*m)):=by
 unfold oh;rw[Zxw k 64 hk,E9,E9,List.filter_cons,List.filter_cons];have h1: ∀a,(List.range k).filter (eE (2^k*a))=[]:=λa=>by
  rw[List.filter_eq_nil_iff];grind[wa,zN]
 have h2:eE (2^k*(2*m+1)) k=true:=by rw[wa,zN,IH];simp
 have h3:eE (2^k*(2*m)) k=false:=by rw[wa,zN,Bk,ZqK];simp
 rw[h1,h1,h2,h3,bE rfl,bj (by decide),jH,jH];refine congrArg (k:: ·) (List.filter_congr λj hj=>?_);rw[wa,wa,zN,zN,IH,aF (show ¬j-k=0 by have:=List.mem_range'_1.1 hj;omega)];rfl
theorem MG (w:Nat):(oh w).length<=64:=by
 have:=List.length_filter_le (eE w) (List.range 64);rw[List.length_range]at this;exact this
def uQ:Nat->al->ak
 |_,[]=>[]
 |b,w::r=>(oh w).map (λj=>((b*64+j:Nat):Int))++uQ (b+1) r
def dq (W:al):ak:=uQ 0 W
theorem ZoY: ∀(b:Nat) (W:al),(uQ b W).length<=64*W.length
 |_,[]=>aO _
 |b,w::r=>by
  unfold uQ;have:=ZoY (b+1) r;have:=MG w;rw[bB,lG,cO];omega
theorem ZoG: ∀(b:Nat) (W:al) (w:Nat),uQ b (W++[w])=uQ b W++(oh w).map (λj=>(((b+W.length)*64+j:Nat):Int))
 |b,[],w=>by simp[uQ]
 |b,x::r,w=>by
  rw[nQ];unfold uQ;rw[ZoG (b+1) r w,fI,cO,Nat.add_right_comm b 1,uy b]
theorem ZvR (W:al) (h:i<W.length):dq (W.take (i+1))=dq (W.take i)++(oh W[i]).map (λj=>((i*64+j:Nat):Int)):=by
 unfold dq;rw[lX h,ZoG,cX,nS (by omega),eO]
def Qg (Bd:Zh):Prop:=∀(n k m:Nat) (st:St),sc st->k<64->2^k*(2*m+1)<18446744073709551616->run Bd (n+1) 86 [.w ((2^k*(2*m+1):Nat):Int)] st=some (.val [.i (k:Int)],st)
theorem ZwM {a b:Nat} (ha:a<18446744073709551616) (hb:b<18446744073709551616:=by omega):bits .and .u64 (a:Int) (b:Int)=((a&&& b:Nat):Int):=D1 ha hb
theorem RN (W:al) (i:Nat):(dq (W.take i)).length<=64*W.length:=by
 have h1:=ZoY 0 (W.take i);grind[dq]
variable {Bd:Zh} [h:HA Bd]
theorem ZmK (hz:Qg Bd) (n:Nat) (st:St) (ht:sc st) (hs:gy st f i j m W) (hn:80<=n:=by omega):
  Ok (λo=>∃p s',o=(.val [.s 1 p (dq W).length],s')/\aB st s'/\Sl s' p (ints (dq W))/\∀b∈aP p,st.length<=b) (run Bd n 172 [.p (some (i,0))] st):=by
 obtain⟨n,rfl⟩: ∃k,n=k+2:=⟨n-2,by omega⟩;rw[Ze,h.aev];unfold QM jh fB kd wb cw aZ dY lg Li iw
 try dsimp only
 rw[eH,aq,bd];rw[Zo hs.hd rfl];simp only[kb,Za];have hle:=hs.le;have hlen:=hs.len;refine Zi _ (λq y s=>∃(a z:Nat) (p:ai),y=[.s z p (dq (W.take a)).length,.i a]/\(z=1\/p=none)/\a<=W.length/\W.length-a<=q/\bm st s p (ints (dq (W.take a)))) ?_ W.length (n+1) _ _ ⟨0,0,none,rfl,.inr rfl,cz _,by omega,bm.nil (.refl st)⟩ (by omega);rintro q _ s ⟨a,z,p,rfl,YA,ha,hq,ho⟩ rec aN;simp only[av,Zg 1 z p _ YA,aq];have eX:=hs.pre ho.1;by_cases aw:a<W.length
 .rw[ax (show(a:Int)<(W.length:Int) by omega),ae,bd,Zb (Zj aw),bp]
  have ox:=hs.lt _ (kA aw);rw[Zo (d:= .w (W[a]:Nat)) eX.wd (by rw[cR,gV];simp[Zv,aw])];rw[bg];have uh:=ZvR W aw;have hA:=RN W a;generalize dq (W.take a)=A at ho uh hA;generalize W[a]=w at ox uh;have cG:ar ((a:Int)+1)=((a+1:Nat):Int):=Zc;have fR:ar ((a:Int)*64)=((a*64:Nat):Int):=by rw[Zc];omega
  rw[cG,fR];have⟨F,hF⟩: ∃F:Nat->Int,(λj=>((a*64+j:Nat):Int))=F:=⟨_,rfl⟩;rw[hF]at uh;refine Zi _ (λq' y t=>∃(w' z':Nat) (D:al) (p':ai),y=[.s z' p' (A++D.map F).length,.w (w':Int)]/\(z'=1\/p'=none)/\w'<18446744073709551616/\D++oh w'=oh w/\(oh w').length<=q'/\bm st t p' (ints (A++D.map F))) ?_ 64 (n+1) _ _ ⟨w,1,[],p,by rw[List.map_nil,gz],.inl rfl,ox,rfl,MG w,by rw[List.map_nil,gz];exact ho⟩ (by omega);rintro q' _ t ⟨w',z',D,p',rfl,ai4,acj,hD,sP,uf⟩ dw j4;simp only[av,Zg 1 z' p' _ ai4,aq];by_cases yH:w'=0
  .subst yH
   rw[show(!(((0:Nat):Int)==0))=false from rfl,af];rw[aX,aq];rw[Zvx,gz]at hD;rw[hD,<-uh]at uf⊢;exact aN (W.length-(a+1)) _ _ (by omega) ⟨a+1,1,p',rfl,.inl rfl,by omega,aO _,uf⟩
  .have hnz:(!((w':Int)==0))=true:=by rw[lF,eG];omega
   have⟨k,m',e⟩:=ZuE w' (by omega);have hk:k<64:=by
    rcases jI k 64 with h|h
    .exact h
    .have h1:2^64<=2^k:=nT (by decide) h
     have h2:2^k*1<=2^k*(2*m'+1):=Nat.mul_le_mul_left _ (by omega);omega
   rw[hnz,ae];subst e;rw[Zk (hz n k m' t (ht.mono uf.1) hk acj)];rw[av,aq];have jB:ar (((a*64:Nat):Int)+(k:Int))=F k:=by rw[<-hF];exact Zc
   rw[jB];have wU:IntKind.wrap .u64 (((2^k*(2*m'+1):Nat):Int)-1)=((2^k*(2*m'+1)-1:Nat):Int):=by
    have h1:(((2^k*(2*m'+1):Nat):Int)-1)=((2^k*(2*m'+1)-1:Nat):Int):=by omega
    rw[h1];exact qQ
   have iA:bits .and .u64 (((2^k*(2*m'+1):Nat):Int)) (IntKind.wrap .u64 (((2^k*(2*m'+1):Nat):Int)-1))=((2^k*(2*m'):Nat):Int):=by
    rw[wU,ZwM acj,Zyz]
   rw[iA];rw[Zvs k m' hk]at hD sP;have hlD:(A++D.map F).length<=1000000:=by
    have h1:=congrArg List.length hD;rw[bB]at h1;have:=MG w;rw[bB,lG];omega
   have⟨p2,s2,du,rj,he⟩:=uf.CV (β:=ah) (sz:=1) (n:=(A++D.map F).length) (lim:=8796093022208) [.i (F k)] (xp 0) (by simp[ints]) rfl (by omega);refine Eq.mpr (congrArg (Ok _) (he _)) ?_;refine j4 (oh (2^k*(2*m'))).length _ _ (by simp at sP;omega) ⟨_,1,D++[k],p2,?_,.inl rfl,?_,by rw[fI];exact hD,aO _,?_⟩
   .rw[fq,<-fI,bB (as:=A++D.map F)];rfl
   .have:2^k*(2*m')<=2^k*(2*m'+1):=Nat.mul_le_mul_left _ (by omega)
    omega
   .rw[fq,<-fI]
    unfold ints at du⊢;rw[fq (l₁:=A++D.map F)];exact du
 .rw[aF (show ¬(a:Int)<(W.length:Int) by omega),af]
  rw[aX,aq,Zd];rw[dG (by omega)]at ho⊢;refine .mk ⟨p,s,rfl,ho.1,ho.sl,λb hb=>?_⟩;rcases ho.2 with⟨rfl,_⟩|⟨i',rfl,h1,_⟩
  .cases hb
  .rw[cB.1 hb];exact h1
def Px (x:Int):Int:=match QH (λ_ _=>fail) 0 [.w x] []with
 |some (.val [.int _ v],_)=>v
 |_=>0
theorem ZtD (n:Nat) (x:Int) (st:St):run Bd (n+1) 210 [.w x] st=some (.val [.i (Px x)],st):=by
 rw[Ze,h.aeT];rfl
def IS:Int->al->Int
 |a,[]=>a
 |a,w::r=>IS (ar (a+Px w)) r
def BP (W:al):Int:=IS 0 W
theorem ZrW (n:Nat) (st:St) (hs:gy st f i j m W) (hn:80<=n):Ok (λo=>o=(.val [.i (BP W)],st)) (run Bd n 183 [.p (some (i,0))] st):=by
 obtain⟨n,rfl⟩: ∃k,n=k+2:=⟨n-2,by omega⟩;rw[Ze,h.aez];unfold QW jh oL iX wb cw Li lg gJ
 try dsimp only
 rw[eH,aq,bd];rw[Zo hs.hd rfl];rw[kb,Za];have hle:=hs.le;have hlen:=hs.len;refine Zi _ (λq y s=>∃(a:Nat) (c:Int),y=[.i c,.i a]/\a<=W.length/\W.length-a<=q/\s=st/\IS c (W.drop a)=BP W) ?_ W.length (n+1) _ _ ⟨0,0,rfl,cz _,by omega,rfl,rfl⟩ (by omega);rintro q _ s ⟨a,c,rfl,ha,hq,rfl,hc⟩ rec aN;simp only[av,aq];by_cases aw:a<W.length
 .rw[ax (show(a:Int)<(W.length:Int) by omega),ae,bd,Zb (Zj aw),bp]
  rw[Zo (d:= .w (W[a]:Nat)) hs.wd (by rw[cR,gV];simp[Zv,aw])];rw[bg];rw[Zk (ZtD n _ s)];rw[av,aq];have cG:ar ((a:Int)+1)=((a+1:Nat):Int):=Zc;rw[cG];refine aN (W.length-(a+1)) _ _ (by omega) ⟨a+1,_,rfl,by omega,aO _,rfl,?_⟩;rw[<-hc,iV aw];rfl
 .rw[aF (show ¬(a:Int)<(W.length:Int) by omega),af]
  rw[Zd];rw[lW (by omega)]at hc;exact .mk (by rw[<-hc];rfl)
theorem ZpV (n:Nat) (W V:al) (a b:Nat) (f g:Bool) (st:St) (ha:st[a]? =some (some ⟨f,Zv W⟩)) (hb:st[b]? =some (some ⟨g,Zv V⟩)) (hW:W.length<100000) (hn:W.length+3<=n):
  Ok (λo=>o=(.val [.b (decide (W=V))],st)) (run Bd n 236 [.s 1 (some (a,0)) W.length,.s 1 (some (b,0)) V.length] st):=by
 obtain⟨n,rfl⟩: ∃k,n=k+2:=⟨n-2,by omega⟩;rw[Ze,h.afg];unfold Qm bV Q_ cN wb Lb Li;simp only[aX,aq];have no:W≠V->Ok (λo=>o=(.val [.b (decide (W=V))],st)) ((ay [.b false]:M ah) st):=by
  intro hm;rw[Zd];exact .mk (by rw[aF hm])
 by_cases hlen:W.length=V.length;rotate_left
 .rw[show((W.length:Int)==(V.length:Int))=false from eG.2 (by omega),bn,ae]
  grind
 rw[show((W.length:Int)==(V.length:Int))=true by rw[hlen];simp,bu,af,Za];refine Zi _ (λk v s=>∃i:Nat,v=[.i i]/\i<=W.length/\W.length-i<=k/\s=st/\∀j,j<i->W[j]? =V[j]?) ?_ W.length (n+1) _ _ (by grind) (by omega);rintro k _ s ⟨i,rfl,hi,hk,rfl,dt⟩ rec aN;simp only[av,aq];by_cases aw:i<W.length
 .have kM:i<V.length:=by omega
  rw[ax (show(i:Int)<(W.length:Int) by omega),ae,bd,Zb (Zj aw),bp];rw[Zo (d:= .w (W[i]:Nat)) ha (by rw[cR,gV];simp[Zv,aw])];rw[bg];rw[bd,Zb (Zj kM)];rw[Zo (d:= .w (V[i]:Nat)) hb (by rw[cR,gV];simp[Zv,kM])];rw[bg];by_cases hw:W[i]=V[i]
  .rw[show(((W[i]:Nat):Int)==((V[i]:Nat):Int))=true by rw[hw];simp,bu,af,Zc]
   refine aN (W.length-(i+1)) _ _ (by omega) ⟨i+1,rfl,by omega,by omega,rfl,λj hj=>?_⟩;by_cases nA:j<i
   .exact dt j nA
   grind
  grind
 .rw[aF (show ¬(i:Int)<(W.length:Int) by omega),af,Zd]
  refine .mk ?_;have:W=V:=tk λj=>by
   by_cases hj:j<i
   .exact dt j hj
   grind
  rw[ax this]
theorem Zm2 (n:Nat) (st:St) (hs:gy st f i j m W) (mw:gy st g i2 j2 m2 V) (hn:80<=n:=by omega):
  Ok (λo=>o=(.val [.b (decide (m=m2)&&decide (W=V))],st)) (run Bd n 202 [.p (some (i,0)),.p (some (i2,0))] st):=by
 obtain _|n:=n;omega;rw[Ze,h.aeM];unfold Rs jh Zm aA bq Lb wh;simp only[eH,aq,bd];rw[Zo hs.hd rfl];rw[bg];rw[Zo mw.hd rfl];rw[bg,Za];have hle:=hs.le;have hlen:=hs.len;by_cases hm:m=m2
 .rw[show((m:Int)==(m2:Int))=true by rw[hm];simp,ae,Zo hs.hd rfl]
  rw[kb];rw[Zo mw.hd rfl];rw[kb];refine Ok.call (ZpV n W V j j2 f g st hs.wd mw.wd (by omega) (by omega)) ?_;rintro _ rfl;refine⟨_,st,rfl,?_⟩;simp only[au,aq,Zd];exact .mk (by rw[ax hm,dF])
 .rw[show((m:Int)==(m2:Int))=false from eG.2 (by omega),af]
  simp only[au,aq,Zd];exact .mk (by rw[aF hm,gf])
def sj (l:List ZP):ah:=(l.map ZY).flatten
theorem Mn {x:ZP} (h:x.eY.length=48):(ZY x).length=49:=by simp[ZY,cO,Zu,h]
theorem TK: ∀ {l:List ZP},(∀x∈l,x.eY.length=48)->(sj l).length=l.length*49
 |[],_=>rfl
 |x::l,h=>by
  show(ZY x++sj l).length=_;rw[bB,Mn (h x (by simp)),TK λy hy=>h y (by simp[hy]),cO];omega
theorem Znu: ∀ {l:List ZP} {j:Nat} {e:ZP},(∀x∈l,x.eY.length=48)->l[j]? =some e->((sj l).drop (j*49)).take 49=ZY e
 |[],j,e,_,h=>by simp at h
 |x::l,0,e,hl,h=>by
  simp only[kY,fT]at h;subst h;rw[tn,dK];have:=Mn (hl x (by simp));show(ZY x++sj l).take 49=_;rw[<-this,Fc]
 |x::l,j+1,e,hl,h=>by
  have e2:sj (x::l)=ZY x++sj l:=rfl;have h49:=Mn (hl x (by simp));rw[e2,show(j+1)*49=(ZY x).length+j*49 by omega,<-kW,C8];exact Znu (by grind) (by simpa using h)
theorem Zt1 (l m:List ZP):sj (l++m)=sj l++sj m:=by
 simp[sj]
def CU (m:Nat) (x:ZP):Bool:=bif decide (0<(eV x 384).length)then decide ((eV x 384).getLastD 0>=(m:Int))else false
def BQ (m:Nat):Nat->List ZP->al->Option (al)
 |_,[],W=>some W
 |i,x::r,W=>bif decide (x.no=i)&& !CU m x then BQ m (i+1) r ((eV x 384).foldl (bK m) W)else none
def Cc (m:Nat) (l:List ZP):Option (al):=bif decide ((l.length:Int)=rK m 384)then BQ m 0 l (jd m [])else none
theorem Zqc (n:Nat) (x:Int) (st:St):run Bd (n+1) 240 [.i x] st=some (.val [.i (rK x 384)],st):=by
 rw[Ze,h.afk];rfl
theorem Ztk (n m:Nat) (l:List ZP) (p:ai) (z:Nat) (st:St) (hm:m<=3072) (hz:z=49\/p=none) (hl:Sl st p (sj l)) (wG: ∀x∈l,x.eY.length=48/\x.no<8) (gp:l.length<1000) (hn:2000<=n):
  Ok (λo=>∃s',aB st s'/\match Cc m l with
   |none=>o=(.val [.p none,.b false],s')
   |some F=>∃i j,o=(.val [.p (some (i,0)),.b true],s')/\gy s' false i j m F) (run Bd n 200 [.i (m:Int),.s z p l.length] st):=by
 obtain⟨n,rfl⟩: ∃k,n=k+2:=⟨n-2,by omega⟩;have⟨R,hR⟩: ∃R,Cc m l=R:=⟨_,rfl⟩;rw[hR];unfold Cc at hR;rw[Ze,h.aeK];unfold TI aA zD Q_ cN N_ iL C_ Zm cw Li Lb
 try dsimp only
 rw[av,Zg 49 z p _ hz,aq];rw[Za,aF (show ¬(m:Int)<0 by omega),af,aF (show ¬(m:Int)>3072 by omega)];simp only[au,aq];rw[Za,af,Zk (Zqc n m st)];simp only[av,au,aq];have hq:((l.length:Int)==rK m 384)=decide ((l.length:Int)=rK m 384):=rfl;rw[hq];cases Cl:decide ((l.length:Int)=rK m 384)with
 |false=>
  rw[Cl,af]at hR;rw[bn,ae,Zd,<-hR];exact .mk ⟨st,.refl st,rfl⟩
 |true=>
 rw[Cl,ae]at hR;rw[bu,af];have⟨s1,e1,aH,OA,O1⟩:=T7 (n+1) m [] none st hm rfl (by show 0<1000000;omega) (by grind);have yb:run Bd (n+1) 177 [.i (m:Int),.s 0 none 0] st=some (.val [.p (some (st.length+1,0))],s1):=by
  rw[Ze,h.aa9]at e1⊢;exact e1
 rw[Zk yb];rw[eH,aq];rw[Za];refine Zi _ (λq y s=>∃(i:Nat) (W:al),y=[.i i]/\i<=l.length/\l.length-i<=q/\aB st s/\gy s false (st.length+1) st.length m W/\BQ m i (l.drop i) W=R) ?_ l.length (n+1) _ _ ⟨0,_,rfl,cz _,by omega,aH,O1,hR⟩ (by omega);rintro q _ s ⟨i,W,rfl,hi,hq,iB,dh,aQ⟩ rec aN;rw[av,aq];by_cases aw:i<l.length
 .have dA:=hl.mono iB
  have mZ:l[i]? =some l[i]:=cq aw;have⟨WL,h8x⟩:=wG _ (kA aw);have hlen:=TK λx hx=>(wG x hx).1
  obtain⟨i1,o1,rfl⟩:=dA.cH (by rw[hlen];omega);have fW:l.drop i=l[i]::l.drop (i+1):=iV aw;rw[fW]at aQ;rw[ax (show(i:Int)<(l.length:Int) by omega),ae,bd,Zb (Zj aw),bp,dA.yj (k:=i*49) (n:=49) (by rw[hlen];omega),Znu (λx hx=>(wG x hx).1) mZ];generalize l[i]=x at aQ WL h8x;unfold BQ at aQ;have hZ:(bU x.eY).length=48:=by rw[Zu,WL]
  show Ok _ (aD .i64 (.i x.no::bU x.eY) _ s);rw[av];rw[bI hZ,bI (by simp[hZ])];refine Ok.call (Zr4 (n+1) x WL h8x s (by omega)) ?_;rintro _ ⟨px,s2,rfl,aU,vp⟩;refine⟨_,s2,rfl,?_⟩;rw[aX,aq];have yE:=dh.pre aU;have akt:=Zrt x 384;have mA: ∀t,aB st t->R=none->Ok (λo=>∃s',aB st s'/\match R with
   |none=>o=(.val [.p none,.b false],s')
   |some F=>∃i j,o=(.val [.p (some (i,0)),.b true],s')/\gy s' false i j m F) ((ay [.p none,.b false]:M ah) t):=by
   intro t ht e;rw[e,Zd];exact .mk ⟨t,ht,rfl⟩
  have dM:(((x.no:Int))==(i:Int))=decide (x.no=i):=by
   by_cases e:x.no=i
   .rw[e,ax rfl];grind
   grind
  rw[dM];cases cA:decide (x.no=i)with
  |false=>
   rw[cA,gf,af]at aQ;rw[Za,bn,ae];simp only[au,aq,ae];exact mA s2 (iB.trans aU) aQ.symm
  |true=>
  rw[cA,dF]at aQ;have⟨ov,yC⟩: ∃ov,CU m x=ov:=⟨_,rfl⟩;rw[yC]at aQ;unfold CU at yC;refine Ok.join λck Cx=>?_
  have hA:Ok (λo=>∃s',aB st s'/\match R with
   |none=>o=(.val [.p none,.b false],s')
   |some F=>∃i j,o=(.val [.p (some (i,0)),.b true],s')/\gy s' false i j m F) (ck [.b ov] s2):=by
   rw[Cx];simp only[au,aq];cases ov with
   |true=>
    rw[bu,af]at aQ;rw[ae];exact mA s2 (iB.trans aU) aQ.symm
   |false=>
    rw[bn,ae]at aQ;rw[af];have Er:lI [st.length] px:=λb o e hb=>by
     rw[cB.1 hb]at e;subst e;have⟨all,e1⟩:=vp.2 _ _ rfl;rw[yE.wd]at e1;cases e1
    rw[Zk (H3 (n+1) (eV x 384) px s2 yE (by omega) vp.1 Er)];rw[aq];have cG:ar ((i:Int)+1)=((i+1:Nat):Int):=Zc;rw[cG];have aii:=iB.trans aU;refine aN (l.length-(i+1)) _ _ (by omega) ⟨i+1,_,rfl,by omega,aO _,tA aii (aO _) _,yE.add (by omega) _ (by rw[(ZF m _ _).1]) ((ZF m _ _).2 yE.lt),aQ⟩
  rw[bu,af,Za];cases wR:decide (0<(eV x 384).length)with
  |false=>
   rw[wR,af]at yC;have:=Fl wR;rw[aF (show ¬(((eV x 384).length:Nat):Int)>0 by omega),af];simp only[au,aq];grind
  |true=>
   rw[wR,ae]at yC;have akA:=mK wR;obtain⟨i2,o2,rfl⟩:=vp.1.cH (by simp[ints];omega);have fR:ar ((((eV x 384).length:Nat):Int)-1)=(((eV x 384).length-1:Nat):Int):=by rw[Zc];omega
   rw[ax (show(((eV x 384).length:Nat):Int)>0 by omega),ae,bd,fR,Zb (Zj),bp,vp.1.dJ (ZD)];rw[bg];have JV:(eV x 384)[(eV x 384).length-1]'(by omega)=(eV x 384).getLastD 0:=by
    rw[List.getLastD_eq_getLast?,List.getLast?_eq_getElem?,cq (by omega)];rfl
   rw[JV,yC];simp only[au,aq];exact hA
 .rw[aF (show ¬(i:Int)<(l.length:Int) by omega),af]
  simp only[Zd];rw[lW (by omega)]at aQ;rw[<-aQ];exact .mk ⟨s,iB,_,_,rfl,dh⟩
def eZ (v:Int):Nat:=(v%18446744073709551616).toNat
def rJ (v:Int):UInt8:=UInt8.ofNat (v%256).toNat
theorem tC (v:Int):eZ v<18446744073709551616:=by unfold eZ;omega
theorem FO (v:Int):IntKind.wrap .u64 v=(eZ v:Int):=by
 have e:v=v/18446744073709551616*18446744073709551616+(eZ v:Int):=by unfold eZ;omega
 have h:=qQ (tC v);have hm:IntKind.wrap .u64 v=v%18446744073709551616:=rfl;rw[hm];unfold eZ;omega
theorem ZtL (v:Int):IntKind.wrap .u8 v=((rJ v).toNat:Int):=by
 have hm:IntKind.wrap .u8 v=v%256:=rfl;rw[hm];unfold rJ;show _=(((v%256).toNat%256:Nat):Int);omega
theorem Zqh (n:Nat) (v i:Nat) (hv:v<18446744073709551616) (st:St) (hi:i<1000) (hn:i+3<=n):
  Ok (λo=>o=(.val [.u ((v/256^i%256:Nat):Int)],st)) (run Bd n 248 [.w (v:Int),.i (i:Int)] st):=by
 obtain⟨n,rfl⟩: ∃k,n=k+2:=⟨n-2,by omega⟩;rw[Ze,h.afs];unfold Sj BH BU zS lH ZC lg;simp only[av,aq,Za];refine Zi _ (λq y s=>∃k:Nat,y=[.w ((v/256^k:Nat):Int),.i (k:Int)]/\k<=i/\i-k<=q/\s=st) ?_ i (n+1) _ _ ⟨0,by rw[Nat.pow_zero,Nat.div_one];rfl,cz _,by omega,rfl⟩ (by omega);rintro q _ s ⟨k,rfl,hk,hq,rfl⟩ rec aN;simp only[av,aq];have hd:v/256^k<18446744073709551616:=Dd (Fg _ _) hv;by_cases aw:k<i
 .rw[ax (show(k:Int)<(i:Int) by omega),ae]
  have h1:((v/256^k:Nat):Int).tdiv 256=((v/256^(k+1):Nat):Int):=by
   rw[uz,<-Ff];rfl
  have h2:v/256^(k+1)<18446744073709551616:=by grind
  rw[h1,qQ h2,Zc];exact aN (i-(k+1)) _ _ (by omega) (by grind)
 .rw[aF (show ¬(k:Int)<(i:Int) by omega),af]
  have:k=i:=by omega
  subst this;rw[Zd];refine .mk ?_;have h1:((v/256^k:Nat):Int).tmod 256=((v/256^k%256:Nat):Int):=rfl;rw[h1];have h2:IntKind.wrap .u8 ((v/256^k%256:Nat):Int)=((v/256^k%256:Nat):Int):=by
   show((v/256^k%256:Nat):Int)%256=_;omega
  rw[h2]
theorem ZwJ (v n:Nat):db v (n+1)=db v n++[UInt8.ofNat (v/256^n)]:=by
 rw[Vj];rfl
theorem Zvt (x:Nat) (_h:x<256):tE [.u (x:Int)]=some [UInt8.ofNat x]:=rfl
theorem tz (n:Nat) (v k:Nat) (hv:v<18446744073709551616) (st:St) (hk:k<1000:=by omega) (hn:k+10<=n:=by omega):
  Ok (λo=>∃s',o=(.val [.t (db v k)],s')/\aB st s') (run Bd n 213 [.w (v:Int),.i (k:Int)] st):=by
 obtain⟨n,rfl⟩: ∃k,n=k+2:=⟨n-2,by omega⟩;rw[Ze,h.aeV];unfold Td BH tt uK Ls ZC lH eI;simp only[av,aq,Za];refine Zi _ (λq y s=>∃i:Nat,y=[.t (db v i),.i (i:Int)]/\i<=k/\k-i<=q/\aB st s) ?_ k (n+1) _ _ ⟨0,rfl,cz _,by omega,.refl st⟩ (by omega);rintro q _ s ⟨i,rfl,hi,hq,hp⟩ rec aN;simp only[bR,av,aq];by_cases aw:i<k
 .rw[ax (show(i:Int)<(k:Int) by omega),ae]
  refine Ok.call (Zqh (n+1) v i hv s (by omega) (by omega)) ?_;rintro _ rfl;refine⟨_,s,rfl,?_⟩;rw[av,aq];rw[Zz,IG (by show 0+1<=1;omega)];show Ok _ (ke [.u ((v/256^i%256:Nat):Int)] _ _);unfold ke;rw[Zvt _ (Nat.mod_lt _ (by decide))];simp only;rw[Zb (gA (by rw[ZA];show i+1<=_;omega)),Zc];refine aN (k-(i+1)) _ _ (by omega) ⟨i+1,?_,by omega,aO _,hp.trans (aB.new _ _)⟩;rw[ZwJ];have:UInt8.ofNat (v/256^i%256)=UInt8.ofNat (v/256^i):=by
   refine HK.1 ?_;simp
  rw[this];rfl
 .rw[aF (show ¬(i:Int)<(k:Int) by omega),af]
  have:i=k:=by omega
  subst this;rw[Zd];exact .mk ⟨s,rfl,hp⟩
theorem ZrP (n:Nat) (x:Nat) (hx:x<4294967296) (st:St):run Bd (n+1) 288 [.y (x:Int)] st=some (.val [.y (oC x:Nat)],st):=by
 rw[Ze,h.afV];unfold Sw lf oC
 try dsimp only
 rw[av,aq];have h1:((x:Int).tmod 2==1)=decide (x%2=1):=by
  have e:(x:Int).tmod 2=((x%2:Nat):Int):=rfl;rw[e];by_cases h:x%2=1
  .rw[h,ax rfl];rfl
  grind
 have h2:(x:Int).tdiv 2=((x/2:Nat):Int):=rfl;rw[h1,h2,BR];by_cases h:x%2=1
 .rw[ax h,ae,bE h]
  have:=EZ (x:=x/2) (y:=2197175160) (by omega);rw[show((2197175160:Nat):Int)=2197175160 from rfl]at this;rw[this];rfl
 .rw[aF h,af,bj h];rfl
theorem ZpN (n:Nat) (x k:Nat) (hx:x<4294967296) (st:St) (hk:k<1000) (hn:k+4<=n):
  Ok (λo=>o=(.val [.y (ZO k x:Nat)],st)) (run Bd n 264 [.y (x:Int),.i (k:Int)] st):=by
 obtain⟨n,rfl⟩: ∃k,n=k+2:=⟨n-2,by omega⟩;rw[Ze,h.afG];unfold RK cP xU xI uS lf pV;simp only[av,aq,Za];have kM: ∀i,ZO i x<4294967296:=λi=>by
  induction i with
  |zero=>exact hx
  |succ i ih=>rw[Mc];exact Zs4 ih
 refine Zi _ (λq y s=>∃i:Nat,y=[.y (ZO i x:Int),.i (i:Int)]/\i<=k/\k-i<=q/\s=st) ?_ k (n+1) _ _ ⟨0,rfl,cz _,by omega,rfl⟩ (by omega);rintro q _ s ⟨i,rfl,hi,hq,rfl⟩ rec aN;simp only[av,aq];by_cases aw:i<k
 .rw[ax (show(i:Int)<(k:Int) by omega),ae,Zk (ZrP n _ (kM i) s)]
  rw[av,aq];rw[<-Mc,Zc];exact aN (k-(i+1)) _ _ (by omega) (by grind)
 .rw[aF (show ¬(i:Int)<(k:Int) by omega),af]
  have:i=k:=by omega
  subst this;rw[Zd];exact .mk rfl
theorem ZsP (n:Nat) (a:ai) (l:aj) (st:St) (ha:dc st a l) (hl:l.length<1000000) (hn:l.length+20<=n):
  Ok (λo=>o=(.val [.y (wy l:Nat)],st)) (run Bd n 242 [.s 1 a l.length] st):=by
 obtain⟨n,rfl⟩: ∃k,n=k+2:=⟨n-2,by omega⟩;rw[Ze,h.afm];unfold TV bV xU xI N_ mS uS lf pV
 try dsimp only
 rw[aX,aq,Za];refine Zi _ (λq y s=>∃(i:Nat),y=[.y (((l.take i).foldl sX 4294967295:Nat):Int),.i (i:Int)]/\i<=l.length/\l.length-i<=q/\s=st) ?_ l.length (n+1) _ _ (by grind) (by omega);rintro q _ s ⟨i,rfl,hi,hq,rfl⟩ rec aN;simp only[av,aq];have hx:=IW (l.take i) (x:=4294967295) (by omega);by_cases aw:i<l.length
 .obtain⟨i1,o1,rfl⟩:=ha.cH (by omega)
  have mZ:l[i]? =some l[i]:=cq aw;have fZ:l.take (i+1)=l.take i++[l[i]]:=by simp
  rw[ax (show(i:Int)<(l.length:Int) by omega),ae,bd,Zb (Zj aw),bp,ha.dJ mZ];rw[bg];have hc:=(l[i]).toNat_lt;rw[BR,EZ hx];refine Ok.call (ZpN (n+1) _ 8 (HI (n:=32) (by omega) (by omega)) s (by omega) (by omega)) ?_;rintro _ rfl;refine⟨_,s,rfl,?_⟩;rw[av,aq];rw[Zc];refine aN (l.length-(i+1)) _ _ (by omega) ⟨i+1,?_,by omega,aO _,rfl⟩;rw[fZ,zs];rfl
 .rw[aF (show ¬(i:Int)<(l.length:Int) by omega),af]
  rw[Zd];rw[dG (by omega)]at hx⊢;refine .mk ?_;have h1:(4294967295:Int)-((l.foldl sX 4294967295:Nat):Int)=(wy l:Int):=by unfold wy;omega
  rw[h1,BR (VT l)]
def mc (n:Nat):aj:=List.replicate n 0
def jR (s:aj) (n:Nat):aj:=s++mc (n-s.length)
def pF (kind tag:Int) (body:aj):aj:=[rJ kind,rJ tag,0,0]++jR body 56
def iS (kind tag:Int) (body:aj):aj:=db (wy (pF kind tag body)) 4++pF kind tag body
theorem ZqG (n:Nat):il n [.u 0]=bU (mc n):=by
 simp[il,mc,bU]
theorem ZrX (n:Nat) (s:aj) (k:Nat) (hs:s.length<1000000) (hk:k<1000000) (st:St):
  Ok (λo=>∃s',o=(.val [.t (jR s k)],s')/\aB st s') (run Bd (n+1) 249 [.t s,.i (k:Int)] st):=by
 rw[Ze,h.aft];unfold Sq nU lH Ls
 try dsimp only
 rw[bR,av,aq];have hw:ar ((k:Int)-(s.length:Int))=(k:Int)-(s.length:Int):=Zc;have hd:(if (k:Int)-(s.length:Int)<0 then(0:Int)else(k:Int)-(s.length:Int))=((k-s.length:Nat):Int):=by
  split<;>omega
 rw[hw,hd,bp];rw[Zb (by rw[aY,aY,br,br,br];omega),Zz];rw[ZqG,IG (by rw[Zu];simp[mc]),dK,dG (by rw[Zu];simp[mc]),<-lr,oJ];rw[Zb (gA (by grind[mc])),Zd];exact .mk ⟨_,rfl,aB.new _ _⟩
theorem By (n:Nat) (kind tag:Int) (body:aj) (hb:body.length<100000) (st:St) (hn:body.length+200<=n:=by omega):
  Ok (λo=>∃s',o=(.val [.t (iS kind tag body)],s')/\aB st s') (run Bd n 214 [.i kind,.i tag,.t body] st):=by
 obtain⟨n,rfl⟩: ∃k,n=k+2:=⟨n-2,by omega⟩;rw[Ze,h.aeW];unfold Sr jK jw uS jf eI aZ ZC Ls;simp only[bR,av,aq];have Cj:([.u (IntKind.wrap .u8 kind),.u (IntKind.wrap .u8 tag),.u 0,.u 0]:ah)=bU [rJ kind,rJ tag,0,0]:=by
  rw[ZtL,ZtL];rfl
 rw[Cj,Zz,IG (by rw[Zu];show 0+4<=4;omega),dK,dG (by rw[Zu];show 4<=4;omega),<-lr,oJ];refine Ok.cx (ZrX n body 56 (by omega) (by omega) _) λs1 aH=>?_
 rw[bR,aq];have hS:[rJ kind,rJ tag,0,0]++jR body 56=pF kind tag body:=rfl;have hSl:(pF kind tag body).length=4+(jR body 56).length:=by grind
 have akl:(jR body 56).length<=body.length+56:=by
  simp[jR,mc]
 rw[Zb (gA (by show 4+_<=_;omega)),hS,Zz];refine Ok.call (ZsP (n+1) (some (s1.length,0)) (pF kind tag body) _ ⟨false,ZQ (pF kind tag body),by simp,Nat.le_of_eq (by rw[eO,lr]),by rw[dK,lr,rU]⟩ (by omega) (by omega)) ?_;rintro _ rfl;refine⟨_,_,rfl,?_⟩;rw[av,aq];have hc:=VT (pF kind tag body);rw[qQ];refine Ok.call (tz (n+1) _ 4 (by omega) _) ?_;rintro _ ⟨s2,rfl,aU⟩;refine⟨_,_,rfl,?_⟩;rw[bR,aq];rw[Zb (gA (by rw[ZA];omega)),Zd];exact .mk ⟨s2,rfl,(((aB.new _ _).trans aH).trans (aB.new _ _)).trans aU⟩
theorem ZrS (n:Nat) (a:Int) (k:Nat) (hk:0<k) (jn:k<1000000000) (_ha: -9223372036854775808<=a/\a<=9223372036854775807) (st:St):run Bd (n+1) 179 [.i a,.i (k:Int)] st=some (.val [.i (a%(k:Int))],st):=by
 rw[Ze,h.aey];unfold SK iX Li;simp only[av,aq];have h0:(!((k:Int)==0))=true:=by rw[lF,eG];omega
 rw[Zb h0,Zb h0,Zd];have hb:=Int.tmod_lt_of_pos a (show(0:Int)<k by omega);have c9: -(k:Int)<a.tmod k:=by
  have:=Int.neg_tmod a k;have h3:=Int.tmod_lt_of_pos (-a) (show(0:Int)<k by omega);omega
 have hw:ar (a.tmod k+k)=a.tmod k+k:=Zc;rw[hw];have he:(a.tmod k+k).tmod k=a%k:=by
  rw[Int.tmod_eq_emod_of_nonneg (by omega),Int.add_emod_right];have e:a.tmod k=a+k*(-(a.tdiv k)):=by
   have:=Int.mul_tdiv_add_tmod a k;rw[Int.mul_neg];omega
  rw[e,Int.add_mul_emod_self_left]
 rw[he]
def js (l:ak):aj:=(l.map λk=>db (eZ k) 2).flatten
theorem uO (l:ak):(js l).length=2*l.length:=by
 unfold js;induction l with
 |nil=>rfl
 |cons k l ih=>rw[oG,Da,bB,ZA,ih,cO];omega
theorem Ih (l:ak) (h:i<l.length):js (l.take (i+1))=js (l.take i)++db (eZ l[i]) 2:=by
 unfold js;rw[lX h,fq,HC];simp
def jO (k:Int):Bool:=decide (k>=2)&&decide (k<=3071)
theorem H2 (n:Nat) (k:Int) (st:St):run Bd (n+1) 251 [.i k] st=some (.val [.b (jO k)],st):=by
 rw[Ze,h.afv];unfold RU cP aA Lb jO
 try dsimp only
 rw[av,aq,Za];cases decide (k>=2)<;>rfl
theorem Z5 {a b:Nat} (h:a<=b) (K:M β):aC (Nat.ble a b) K=K:=Zb (gA h) K
def Po (x:jL):aj:=db (eZ x.bJ.key) 8++db (eZ x.bJ.value) 8++db (eZ x.bJ.slot) 4++db (eZ x.bJ.gen) 4++js x.kids
def xe (x:jL):aj:=iS 1 x.kids.length (Po x)
theorem Zm0 (n:Nat) (x:jL) (z:Nat) (p:ai) (st:St) (hz:z=1\/p=none) (hs:Sl st p (ints x.kids)) (hl:x.kids.length<1000) (hn:2400<=n:=by omega):
  Ok (λo=>∃s',o=(.val [.t (xe x)],s')/\aB st s') (run Bd n 250 [.a (oA x z p)] st):=by
 obtain⟨n,rfl⟩: ∃k,n=k+2:=⟨n-2,by omega⟩;rw[Ze,h.afu];unfold TT FK jw Df tt jf uK Zn ZC pQ Ls eI oA fk;simp only[nQ,jH];rw[cT];simp only[av,Zg 1 z p _ hz,aq,FO];refine Ok.cx (tz (n+1) _ 8 (tC _) st) λs1 aH=>?_
 rw[bR,aq];refine Ok.cx (tz (n+1) _ 8 (tC _) s1) λs2 aU=>?_
 rw[bR,aq];rw[Z5 (by rw[ZA,ZA];omega)];refine Ok.cx (tz (n+1) _ 4 (tC _) s2) λs3 cu=>?_
 rw[bR,aq];rw[Z5 (by rw[bB,ZA,ZA,ZA];omega)];refine Ok.cn (tz (n+1) _ 4 (tC _) s3) λs4 fy=>?_
 rw[bR,aq];rw[Z5 (by rw[bB,bB,ZA,ZA,ZA,ZA];omega),Za];have hP:=((aH.trans aU).trans cu).trans fy;have⟨A,hA⟩: ∃A,db (eZ x.bJ.key) 8++db (eZ x.bJ.value) 8++db (eZ x.bJ.slot) 4++db (eZ x.bJ.gen) 4=A:=⟨_,rfl⟩;have yk:A.length=24:=by rw[<-hA];simp[ZA]
 rw[hA];refine Zi _ (λq y s=>∃i:Nat,y=[.t (A++js (x.kids.take i)),.i (i:Int)]/\i<=x.kids.length/\x.kids.length-i<=q/\aB st s) ?_ x.kids.length (n+1) _ _ ⟨0,by rw[List.take_zero];show _=[DV.t (A++[]),_];rw[gz];rfl,cz _,by omega,hP⟩ (by omega);rintro q _ s ⟨i,rfl,hi,hq,iB⟩ rec aN;rw[bR,av,aq];by_cases aw:i<x.kids.length
 .have dA:=hs.mono iB
  obtain⟨i1,o1,rfl⟩:=dA.cH (by simp[ints];omega);rw[ax (show(i:Int)<(x.kids.length:Int) by omega),ae,bd,Zb (Zj aw),bp,dA.dJ (ZD aw)];rw[bg];refine Ok.cv (tz (n+1) _ 2 (tC _) s) λs5 jZ=>?_
  rw[bR,aq];rw[Z5 (by rw[bB,uO,ZA,cX,yk];omega),Zc];refine aN (x.kids.length-(i+1)) _ _ (by omega) ⟨i+1,by rw[Ih _ aw,fI];rfl,by omega,aO _,iB.trans jZ⟩
 .rw[aF (show ¬(i:Int)<(x.kids.length:Int) by omega),af]
  rw[dG (by omega)];refine Ok.cv (By (n+1) 1 x.kids.length (A++js x.kids) (by rw[bB,uO];omega) s (by rw[bB,uO];omega)) λs5 jZ=>?_
  rw[bR,aq,Zd];refine .mk ⟨s5,?_,iB.trans jZ⟩;unfold xe Po;rw[hA]
def xi (x:bw):Bool:= !(decide (x.gen<0)||decide (x.gen>4294967295))&&(bif x.live then decide (x.gen>0)&&jO x.block else(decide (x.block>=0)&&decide (x.block<=1792))&&(!(x.gen==0)||x.block==0))
theorem ZrU (n:Nat) (x:bw) (st:St):run Bd (n+2) 252 [.a (eL x)] st=some (.val [.b (xi x)],st):=by
 rw[Ze,h.afw];unfold SO qJ aA bq Lb Li xi eL
 try dsimp only
 rw[cT];simp only[au,av,aq,Za];have e0:=H2 n x.block st;cases decide (x.gen<0)with
 |true=>rfl
 |false=>
 cases decide (x.gen>4294967295)with
 |true=>rfl
 |false=>
 simp only[af,Bool.or_self,bn,dF];cases x.live with
 |true=>
  rw[ae];cases decide (x.gen>0)with
  |true=>
   rw[ae];rw[Zk e0];rfl
  |false=>rfl
 |false=>
  rw[af];cases decide (x.block>=0)with
  |false=>rfl
  |true=>
   rw[ae,dF];cases decide (x.block<=1792)with
   |false=>rfl
   |true=>
    rw[ae,dF];cases(x.gen==0)with
    |true=>rfl
    |false=>rfl
def od:List bw->aj
 |[]=>[]
 |x::r=>db (eZ x.gen) 4++db (eZ x.block) 4++od r
def j9:Nat->List bw->Nat
 |_,[]=>0
 |k,x::r=>(bif x.live then 2^k else 0)+j9 (k+1) r
theorem Up: ∀l:List bw,(od l).length=8*l.length
 |[]=>rfl
 |x::r=>by rw[od,bB,bB,ZA,ZA,Up r,cO];omega
theorem ZoV: ∀l m:List bw,od (l++m)=od l++od m
 |[],m=>rfl
 |x::r,m=>by rw[nQ,od,od,ZoV r m,<-fI]
theorem ZqI: ∀(k:Nat) (l m:List bw),j9 k (l++m)=j9 k l+j9 (k+l.length) m
 |k,[],m=>by simp[j9]
 |k,x::r,m=>by rw[nQ,j9,j9,ZqI (k+1) r m,cO,show k+1+r.length=k+(r.length+1) by omega,uy]
theorem Zsn: ∀(k:Nat) (l:List bw),j9 k l+2^k<=2^(k+l.length)
 |k,[]=>by simp[j9]
 |k,x::r=>by
  have:=Zsn (k+1) r;rw[j9,cO,show k+(r.length+1)=k+1+r.length by omega];grind
def xJ (l:List bw):Option (aj):=bif l.all xi then some (iS 2 (j9 0 l:Nat) (od l))else none
def yZ:Option (aj)->ah
 |some s=>[.t s,.b true]
 |none=>[.t [],.b false]
theorem ZlI (n:Nat) (l:List bw) (hl:l.length=7) (st:St) (hn:400<=n:=by omega):
  Ok (λo=>∃s',o=(.val (yZ (xJ l)),s')/\aB st s') (run Bd n 219 [.a (bT l)] st):=by
 obtain⟨n,rfl⟩: ∃k,n=k+3:=⟨n-3,by omega⟩;have⟨R,hR⟩: ∃R,xJ l=R:=⟨_,rfl⟩;rw[hR];unfold xJ at hR;rw[Ze,h.ae1];unfold SP nU jf iX bq oL jw Df pQ vW ZC zJ Li eI
 try dsimp only
 have cL:(bT l).length=21:=by rw[ZB,hl]
 rw[cT,bI cL];rw[aq];rw[bI cL,Za];refine Zi _ (λq y s=>∃i:Nat,y=[.t (od (l.take i)),.i ((j9 0 (l.take i):Nat):Int),.i (i:Int)]/\i<=7/\7-i<=q/\aB st s/\(l.take i).all xi=true) ?_ 7 (n+2) _ _ ⟨0,rfl,cz _,by omega,.refl st,rfl⟩ (by omega);rintro q _ s ⟨i,rfl,hi,hq,iB,dt⟩ rec aN;simp only[bR,av,aq];by_cases aw:i<7
 .have ue:i<l.length:=by omega
  have fZ:l.take (i+1)=l.take i++[l[i]]:=by simp
  have mZ:l[i]? =some l[i]:=cq ue;have Cj:((bT l).drop (i*3)).take 3=eL l[i]:=MC mZ;rw[ax (show(i:Int)<7 by omega),ae,Zb (show aR (i:Int) 7=true from Zj aw),bp,Z5 (by omega),Cj];have iO:l[i]∈l:=kA ue;generalize l[i]=x at fZ iO;rw[bI (cs:=eL x) (n:=3) rfl,Zk (ZrU n x s)];rw[au,aq];cases hx:xi x with
  |false=>
   rw[bn,ae,Zd];have cA:l.all xi=false:=by
    rw[List.all_eq_false];grind
   rw[cA,af]at hR;rw[<-hR];exact .mk ⟨s,rfl,iB⟩
  |true=>
   rw[bu,af];unfold eL;rw[gZ (d:= .b x.live) rfl];rw[tq];have ui:=Zsn 0 (l.take i);rw[cX,nS (by omega),eO]at ui;have h7:2^i<=2^7:=nT (by decide) (by omega);have ag0:(l.take (i+1)).all xi=true:=by rw[fZ,tj,dt];simp[hx]
   refine Ok.join λaI jV=>?_
   have hA:Ok (λo=>∃s',o=(.val (yZ R),s')/\aB st s') (aI [.i ((j9 0 (l.take (i+1)):Nat):Int)] s):=by
    rw[jV];simp only[av,aq];rw[gZ (d:= .i x.gen) rfl];simp only[bg,FO];refine Ok.cx (tz (n+2) _ 4 (tC _) s) λs1 aH=>?_
    rw[bR,aq];have dA:=Up (l.take i);rw[cX]at dA;rw[Z5 (by rw[dA,ZA];omega),gZ (d:= .i x.block) rfl];rw[bg];refine Ok.cn (tz (n+2) _ 4 (tC _) s1) λs2 aU=>?_
    rw[bR,aq];rw[Z5 (by rw[bB,dA,ZA,ZA];omega),Zc];refine aN (7-(i+1)) _ _ (by omega) ⟨i+1,?_,by omega,aO _,(iB.trans aH).trans aU,ag0⟩;rw[fZ,ZoV];simp[od]
   have Yk:j9 0 (l.take (i+1))=j9 0 (l.take i)+(bif x.live then 2^i else 0):=by
    rw[fZ,ZqI,cX,nS (by omega),eO];simp[j9]
   cases eN:x.live with
   |false=>
    rw[eN,af]at Yk;have aiQ:j9 0 (l.take i)=j9 0 (l.take (i+1)):=Yk.symm;rw[af,aiQ];exact hA
   |true=>
    rw[eN,ae]at Yk;rw[ae,Zb (ax (by omega)),nS (by omega)];have e1:ar (1*2^i)=((2^i:Nat):Int):=by
     rw[Int.one_mul,show((2:Int)^i)=((2^i:Nat):Int) by push_cast;rfl];exact Zc
    rw[e1,Zc];grind
 .rw[aF (show ¬(i:Int)<7 by omega),af]
  rw[dG (by omega)]at dt⊢;rw[dt,ae]at hR;have dA:=Up l;refine Ok.cv (By (n+2) 2 (j9 0 l:Nat) (od l) (by omega) s) λs1 aH=>?_
  rw[bR,aq,Zd];rw[<-hR];exact .mk ⟨s1,rfl,iB.trans aH⟩
def uU (l:ak):Option (aj):=bif l.all λk=>k==0||jO k then some (iS 3 0 (js l))else none
theorem SX (n:Nat) (l:ak) (hl:l.length=16) (st:St) (hn:400<=n:=by omega):
  Ok (λo=>∃s',o=(.val (yZ (uU l)),s')/\aB st s') (run Bd n 218 [.a (ints l)] st):=by
 obtain⟨n,rfl⟩: ∃k,n=k+3:=⟨n-3,by omega⟩;have⟨R,hR⟩: ∃R,uU l=R:=⟨_,rfl⟩;rw[hR];unfold uU at hR;rw[Ze,h.ae0];unfold TS tt jf uK aA bq pQ vW ZC eI Li Lb Ls
 try dsimp only
 have cL:(ints l).length=16:=by simp[ints,hl]
 rw[cT,bI cL];rw[aq];rw[bI cL,Za];refine Zi _ (λq y s=>∃i:Nat,y=[.t (js (l.take i)),.i (i:Int)]/\i<=16/\16-i<=q/\aB st s/\((l.take i).all λk=>k==0||jO k)=true) ?_ 16 (n+2) _ _ ⟨0,rfl,cz _,by omega,.refl st,rfl⟩ (by omega);rintro q _ s ⟨i,rfl,hi,hq,iB,dt⟩ rec aN;rw[bR,av,aq];by_cases aw:i<16
 .have ue:i<l.length:=by omega
  have fZ:l.take (i+1)=l.take i++[l[i]]:=by simp
  have GZ:(ints l)[i*1]? =some (.i l[i]):=by rw[cR];exact ZD ue
  have iO:l[i]∈l:=kA ue;have JW:=Ih l ue;have XE:aR (i:Int) 16=true:=Zj aw;rw[ax (show(i:Int)<16 by omega),ae];rw[bp];rw[Zb XE,gZ GZ];rw[bg];generalize l[i]=x at fZ GZ iO JW;refine Ok.join λaI jV=>?_
  have cA:(x==0||jO x)=false->Ok (λo=>∃s',o=(.val (yZ R),s')/\aB st s') ((ay [.t (bs []),.b false]:M ah) s):=λe=>by
   have cA:(l.all λk=>k==0||jO k)=false:=by
    rw[List.all_eq_false];grind
   rw[cA,af]at hR;rw[<-hR,Zd];exact .mk ⟨s,rfl,iB⟩
  have acn:(x==0||jO x)=true->Ok (λo=>∃s',o=(.val (yZ R),s')/\aB st s') (aI [.b false] s):=λe=>by
   rw[jV];simp only[au,aq];rw[af,Zb XE,gZ GZ];rw[bg,FO];refine Ok.cv (tz (n+2) _ 2 (tC _) s) λs1 aH=>?_
   rw[bR,aq];rw[Z5 (by rw[uO,ZA,cX];omega),Zc];refine aN (16-(i+1)) _ _ (by omega) ⟨i+1,by rw[JW];rfl,by omega,aO _,iB.trans aH,?_⟩;rw[fZ,tj,dt];simpa using e
  cases h0:(x==0)with
  |true=>
   rw[bu,af];grind
  |false=>
   rw[bn,ae,Zb XE,gZ GZ];rw[bg];rw[Zk (H2 (n+1) x s)];rw[au,aq];cases hb:jO x with
   |true=>grind
   |false=>
    rw[jV];simp only[au,aq,bn,ae];grind
 .rw[aF (show ¬(i:Int)<16 by omega),af]
  rw[dG (by omega)]at dt⊢;rw[dt,ae]at hR;have dA:=uO l;refine Ok.cv (By (n+2) 3 0 (js l) (by omega) s) λs1 aH=>?_
  rw[bR,aq,Zd];rw[<-hR];exact .mk ⟨s1,rfl,iB.trans aH⟩
def yW (x:ZH):aj:=iS 5 x.name.length (db (eZ x.mask) 4++js x.dz++x.name)
theorem ZmH (n:Nat) (x:ZH) (hl:x.dz.length=12) (hm:x.name.length<60000) (st:St) (hn:x.name.length+500<=n):
  Ok (λo=>∃s',o=(.val [.t (yW x)],s')/\aB st s') (run Bd n 216 [.a (Z0 x)] st):=by
 obtain⟨n,rfl⟩: ∃k,n=k+3:=⟨n-3,by omega⟩;rw[Ze,h.aeY];unfold Tg jf tt uK ZC pQ Ls eI Z0
 try dsimp only
 have cL:(ints x.dz).length=12:=by simp[ints,hl]
 rw[cT];rw[bR,av];rw[bI cL];rw[aq];rw[bI (n:=14) (by simp[cL])];simp only[FO];refine Ok.cv (tz (n+2) _ 4 (tC _) st) λs0 ou=>?_
 rw[bR,aq];rw[Za];have hA:(db (eZ x.mask) 4).length=4:=ZA _ _;unfold yW;generalize db (eZ x.mask) 4=A at hA;refine Zi _ (λq y s=>∃i:Nat,y=[.t (A++js (x.dz.take i)),.i (i:Int)]/\i<=12/\12-i<=q/\aB st s) ?_ 12 (n+2) _ _ ⟨0,by rw[List.take_zero];show _=[DV.t (A++[]),_];rw[gz];rfl,cz _,by omega,ou⟩ (by omega);rintro q _ s ⟨i,rfl,hi,hq,iB⟩ rec aN;simp only[bR,av,aq];by_cases aw:i<12
 .have ue:i<x.dz.length:=by omega
  have GZ:(ints x.dz)[i*1]? =some (.i x.dz[i]):=by rw[cR];exact ZD ue
  rw[ax (show(i:Int)<12 by omega),ae];rw[bp];rw[Zb (show aR (i:Int) 12=true from Zj aw),gZ GZ];rw[bg];refine Ok.cv (tz (n+2) _ 2 (tC _) s) λs1 aH=>?_
  rw[bR,aq];rw[Z5 (by rw[bB,hA,uO,ZA,cX];omega),Zc];exact aN (12-(i+1)) _ _ (by omega) ⟨i+1,by rw[Ih _ ue,fI];rfl,by omega,aO _,iB.trans aH⟩
 .rw[aF (show ¬(i:Int)<12 by omega),af]
  rw[dG (by omega)];have dA:=uO x.dz;rw[Z5 (by rw[bB];omega)];refine Ok.cv (By (n+2) 5 x.name.length (A++js x.dz++x.name) (by rw[bB,bB];omega) s (by rw[bB,bB];omega)) λs1 aH=>?_
  rw[bR,aq,Zd];exact .mk ⟨s1,rfl,iB.trans aH⟩
def sA:ak->Nat->Bool
 |_l,0=>true
 |l,i+1=>sA l i&&(jO (l.getD i 0)&& !decide (l.getD i 0∈l.take i))
def Ac (l:ak):Option (aj):=bif decide (1<=l.length)&&(decide (l.length<=16)&&sA l l.length)then some (iS 6 l.length (js l))else none
theorem ZtC {l:ak} : ∀ {i j:Nat},i<=j->sA l j=true->sA l i=true
 |i,0,h,e=>by
  grind
 |i,j+1,h,e=>by
  by_cases mn:i=j+1
  .subst mn;exact e
  .unfold sA at e
   rw[aY]at e;exact ZtC (by omega) e.1
theorem ZlZ (n:Nat) (l:ak) (z:Nat) (p:ai) (st:St) (hz:z=1\/p=none) (hs:Sl st p (ints l)) (hl:l.length<1000:=by omega) (hn:2500<=n:=by omega):
  Ok (λo=>∃s',o=(.val (yZ (Ac l)),s')/\aB st s') (run Bd n 215 [.s z p l.length] st):=by
 obtain⟨n,rfl⟩: ∃k,n=k+3:=⟨n-3,by omega⟩;have⟨R,hR⟩: ∃R,Ac l=R:=⟨_,rfl⟩;rw[hR];unfold Ac at hR;rw[Ze,h.aeX];unfold TZ bV aA tt jf uK Zn bq Q_ cN vW pQ eI Li ZC Ls Lb
 try dsimp only
 rw[Zg 1 z p _ hz,aq];rw[Za];have mA: ∀s,aB st s->R=none->Ok (λo=>∃s',o=(.val (yZ R),s')/\aB st s') ((ay [.t (bs []),.b false]:M ah) s):=λs iB e=>by
  rw[e,Zd];exact .mk ⟨s,rfl,iB⟩
 by_cases h1:1<=l.length;rotate_left
 .rw[ax (show(l.length:Int)<1 by omega),ae]
  simp only[au,aq,ae];refine mA st (.refl st) ?_;rw[aF h1,gf,af]at hR;exact hR.symm
 by_cases sH:l.length<=16;rotate_left
 .rw[aF (show ¬(l.length:Int)<1 by omega),af,ax (show(l.length:Int)>16 by omega)]
  simp only[au,aq,ae];refine mA st (.refl st) ?_;rw[aF sH,gf,C5,af]at hR;exact hR.symm
 rw[ax h1,ax sH,dF,dF]at hR;rw[aF (show ¬(l.length:Int)<1 by omega),af,aF (show ¬(l.length:Int)>16 by omega)];simp only[au,aq];rw[af,Za];have ahO: ∀i,i<=l.length->sA l i=false->R=none:=λi hi e=>by
  cases hf:sA l l.length with
  |true=>rw[ZtC hi hf]at e;cases e
  |false=>rw[hf,af]at hR;exact hR.symm
 refine Zi _ (λq y s=>∃i:Nat,y=[.t (js (l.take i)),.i (i:Int)]/\i<=l.length/\l.length-i<=q/\aB st s/\sA l i=true) ?_ l.length (n+2) _ _ ⟨0,rfl,cz _,by omega,.refl st,rfl⟩ (by omega);rintro q _ s ⟨i,rfl,hi,hq,iB,dt⟩ rec aN;rw[bR,av,aq];by_cases aw:i<l.length
 .have dA:=hs.mono iB
  obtain⟨i1,o1,rfl⟩:=dA.cH (by simp[ints];omega);have yw:l.getD i 0=l[i]:=by rw[dW,cq aw];rfl
  have JW:=Ih l aw;have fP:sA l (i+1)=(jO l[i]&& !decide (l[i]∈l.take i)):=by
   show(sA l i&&_)=_;rw[dt,dF,yw]
  have da:(ints l)[i]? =some (.i l[i]):=ZD aw;rw[ax (show(i:Int)<(l.length:Int) by omega),ae,Za,bd,Zb (Zj aw)];rw[bp];rw[dA.dJ da];rw[bg];have⟨x,hx⟩: ∃x,l[i]=x:=⟨_,rfl⟩;rw[hx]at da JW fP⊢;rw[Zk (H2 (n+1) x s)];rw[au,aq];cases hb:jO x with
  |false=>
   rw[bn,ae];grind
  |true=>
   rw[bu,af,Za];refine Zi _ (λq y t=>∃k:Nat,y=[.i (k:Int)]/\k<=i/\i-k<=q/\t=s/\x∉l.take k) ?_ i (n+2) _ _ (by grind) (by omega);rintro q2 _ t ⟨k,rfl,hk,Ew,rfl,ot⟩ dw j4;simp only[av,aq];by_cases hlk:k<i
   .have jn:k<l.length:=by omega
    have vq:(ints l)[k]? =some (.i l[k]):=ZD jn;rw[ax (show(k:Int)<(i:Int) by omega),ae,bd,Zb (Zj jn)];rw[bp];rw[dA.dJ vq];rw[bg];rw[bd,Zb (Zj aw)];rw[dA.dJ da];rw[bg];by_cases he:l[k]=x
    .rw[show(l[k]==x)=true by rw[he];grind,ae]
     refine mA t iB (ahO (i+1) (by omega) ?_);have:x∈l.take i:=by
      rw[<-he];exact List.mem_take_iff_getElem.2 ⟨k,by omega,rfl⟩
     rw[fP,ax this,bu,C5]
    .rw[show(l[k]==x)=false from eG.2 he,af,Zc]
     refine j4 (i-(k+1)) _ _ (by omega) ⟨k+1,rfl,by omega,aO _,rfl,?_⟩;rw[lX jn];grind
   .rw[aF (show ¬(k:Int)<(i:Int) by omega),af]
    have:k=i:=by omega
    subst this;rw[bd,Zb (Zj aw),dA.dJ da];rw[bg,FO];refine Ok.cv (tz (n+2) _ 2 (tC _) t) λs1 aH=>?_
    rw[bR,aq];rw[Z5 (by rw[uO,ZA,cX];omega),Zc];exact aN (l.length-(k+1)) _ _ (by omega) ⟨k+1,by rw[JW];rfl,by omega,aO _,iB.trans aH,by rw[fP,hb,aF ot];rfl⟩
 .rw[aF (show ¬(i:Int)<(l.length:Int) by omega),af]
  have:i=l.length:=by omega
  subst this;rw[rU];rw[dt,ae]at hR;have dA:=uO l;refine Ok.cv (By (n+2) 6 l.length (js l) (by omega) s) λs1 aH=>?_
  rw[bR,aq,Zd];rw[<-hR];exact .mk ⟨s1,rfl,iB.trans aH⟩
theorem Si (n a e:Nat) (ha:a<100000) (he:0<e) (vl:e<1000) (st:St) (hn:a+10<=n:=by omega):
  Ok (λo=>o=(.val [.i (((a+e-1)/e:Nat):Int)],st)) (run Bd n 220 [.i (a:Int),.i (e:Int)] st):=by
 obtain⟨n,rfl⟩: ∃k,n=k+2:=⟨n-2,by omega⟩;rw[Ze,h.ae2];unfold SS iX oL cN Li;simp only[av,aq,Za];have hm:(a+e-1)/e<=a:=by
  rcases Bi a with h0|h0
  .subst h0
   rw[eO,Nat.div_eq_of_lt (by omega)];exact aO _
  .refine Nat.div_le_of_le_mul ?_
   have:1*(e-1)<=a*(e-1):=Fh _ h0;have h2:e*a=a+a*(e-1):=by
    obtain⟨f,rfl⟩: ∃f,e=f+1:=⟨e-1,by omega⟩;rw[Nat.add_sub_cancel,vU,Nat.one_mul,De f];omega
   omega
 have Oq: ∀k,k*e<a↔k<(a+e-1)/e:=λk=>by
  rw[Nat.lt_iff_add_one_le,Nat.lt_iff_add_one_le,Nat.le_div_iff_mul_le he,vU,Nat.one_mul];omega
 generalize (a+e-1)/e=m at hm Oq;refine Zi _ (λq y s=>∃k:Nat,y=[.i (k:Int)]/\k<=m/\m-k<=q/\s=st) ?_ m (n+1) _ _ (by grind) (by omega);rintro q _ s ⟨k,rfl,hk,hq,rfl⟩ rec aN;rw[av,aq];have hke:k*e<=100000*1000:=Nat.mul_le_mul (by omega) (by omega);have hw:ar ((k:Int)*(e:Int))=((k*e:Nat):Int):=by
  rw[show((k:Int)*(e:Int))=((k*e:Nat):Int) by push_cast;rfl];exact Zc
 rw[hw];have:=Oq k;by_cases aw:k*e<a
 .rw[ax (show((k*e:Nat):Int)<(a:Int) by omega),ae,Zc]
  exact aN (m-(k+1)) _ _ (by omega) (by grind)
 .rw[aF (show ¬((k*e:Nat):Int)<(a:Int) by omega),af]
  have jn:k=m:=by
   omega
  rw[jn];rw[Zd];exact .mk rfl
theorem Zjm (n a:Nat) (s g:Int) (ha:a<100000) (st:St) (hn:a+20<=n:=by omega):
  Ok (λo=>o=(.val [.i (((a+383)/384:Nat):Int)],st)) (run Bd n 196 [.a [.i (a:Int),.i s,.i g]] st):=by
 obtain⟨n,rfl⟩: ∃k,n=k+2:=⟨n-2,by omega⟩;rw[Ze,h.aeI];unfold Ry DH cw gJ Li
 try dsimp only
 rw[cT];rw[av,aq];refine Ok.call (Si (n+1) a 384 ha (by decide) (by decide) st) ?_;rintro _ rfl;refine⟨_,st,rfl,?_⟩;rw[av,aq,Zd];exact .mk rfl
theorem Zjt (n a:Nat) (ha:a<100000) (st:St) (hn:a+20<=n:=by omega):
  Ok (λo=>o=(.val [.i (((a+6)/7:Nat):Int)],st)) (run Bd n 266 [.i (a:Int)] st):=by
 obtain⟨n,rfl⟩: ∃k,n=k+2:=⟨n-2,by omega⟩;rw[Ze,h.afI];unfold Rx cP cw gJ Li
 try dsimp only
 rw[av,aq];refine Ok.call (Si (n+1) a 7 ha (by decide) (by decide) st) ?_;rintro _ rfl;refine⟨_,st,rfl,?_⟩;rw[av,aq,Zd];exact .mk rfl
def oW (a:Nat):Nat:=if a=0 then 0 else((a+6)/7+15)/16+1
theorem Zr1 (n a:Nat) (ha:a<100000) (st:St) (hn:a+40<=n):
  Ok (λo=>o=(.val [.i (oW a:Int)],st)) (run Bd n 268 [.i (a:Int)] st):=by
 obtain⟨n,rfl⟩: ∃k,n=k+2:=⟨n-2,by omega⟩;rw[Ze,h.afK];unfold SH cP cw Li gJ oW
 try dsimp only
 rw[av,aq];by_cases h0:a=0
 .subst h0
  rw[bE rfl];exact .mk rfl
 .rw[bj h0,show((a:Int)==0)=false from eG.2 (by omega),af]
  refine Ok.call (Zjt (n+1) a ha st) ?_;rintro _ rfl;refine⟨_,st,rfl,?_⟩;rw[av,aq];refine Ok.call (Si (n+1) ((a+6)/7) 16 (by omega) (by decide) (by decide) st) ?_;rintro _ rfl;refine⟨_,st,rfl,?_⟩;rw[av,aq,Zd];refine .mk ?_;rw[Zc];rfl
theorem or8 {x:Nat} (hx:x<256) (hy:y<256):bits .or .u8 (x:Int) (y:Int)=((x|||y:Nat):Int):=by
 show IntKind.wrap .u8 ((BitVec.ofInt 8 (x:Int)|||BitVec.ofInt 8 (y:Int)).toNat:Int)=_;have e: ∀z:Nat,z<256->(BitVec.ofInt 8 (z:Int)).toNat=z:=by simp
 rw[BitVec.toNat_or,e x hx,e y hy];have h:x|||y<256:=by grind
 show((x|||y:Nat):Int)%256=_;omega
def xP (b:aj) (k:Nat):aj:=b.set (k/8) (UInt8.ofNat ((b.getD (k/8) 0).toNat|||2^(k%8)))
theorem Mr (b:aj) (k:Nat):(xP b k).length=b.length:=by simp[xP]
def inPlace (p:Nat) (x:Int):Bool:=decide (x>=((384*p:Nat):Int))&&decide (x<((384*p+384:Nat):Int))
def tG (p:Nat):aj->ak->aj
 |b,[]=>b
 |b,x::r=>tG p (bif inPlace p x then xP b (x-((384*p:Nat):Int)).toNat else b) r
def gr (p:Nat) (l:ak):ZP:=⟨p,tG p (List.replicate 48 0) l⟩
theorem If (p:Nat): ∀(l:ak) (b:aj),(tG p b l).length=b.length
 |[],_=>rfl
 |x::r,b=>by
  unfold tG;rw[If p r];cases inPlace p x with
  |true=>exact Mr b _
  |false=>rfl
theorem ZxK (b:aj) (k:Nat) (c:UInt8):bU (b.set k c)=(bU b).set k (.u c.toNat):=by
 simp[bU]
theorem ZlK (n p:Nat) (l:ak) (a:ai) (z:Nat) (st:St) (hz:z=1\/a=none) (hs:Sl st a (ints l)) (hp:p<1000) (hl:l.length<100000) (hx: ∀x∈l,0<=x/\x<1000000) (hn:l.length+10<=n):
  Ok (λo=>o=(.val [.a (ZY (gr p l))],st)) (run Bd n 192 [.i (p:Int),.s z a l.length] st):=by
 obtain⟨n,rfl⟩: ∃k,n=k+2:=⟨n-2,by omega⟩;rw[Ze,h.aeE];unfold Tz bV cP Zn aA lH Lb
 try dsimp only
 rw[av,Zg 1 z a _ hz,aq];rw[Za];have cG:ar (384*(p:Int))=((384*p:Nat):Int):=by
  rw[show(384*(p:Int))=((384*p:Nat):Int) by omega];exact Zc
 have fR:ar (((384*p:Nat):Int)+384)=((384*p+384:Nat):Int):=by
  rw[Zc];omega
 rw[cG,fR];have⟨G,hG⟩: ∃G,tG p (List.replicate 48 0) l=G:=⟨_,rfl⟩;have hR:gr p l=⟨p,G⟩:=by unfold gr;rw[hG]
 rw[hR];refine Zi _ (λq y s=>∃(i:Nat) (b:aj),y=[.a (.i (p:Int)::bU b),.i (i:Int)]/\i<=l.length/\l.length-i<=q/\s=st/\b.length=48/\tG p b (l.drop i)=G) ?_ l.length (n+1) _ _ ⟨0,List.replicate 48 0,rfl,cz _,by omega,rfl,oF,hG⟩ (by omega);rintro q _ s ⟨i,b,rfl,hi,hq,rfl,hb,aQ⟩ rec aN;have hZ:(bU b).length=48:=by rw[Zu,hb]
 rw[cT];simp only[av,aq];rw[bI hZ];by_cases aw:i<l.length
 .obtain⟨i1,o1,rfl⟩:=hs.cH (by simp[ints];omega)
  have da:(ints l)[i]? =some (.i l[i]):=ZD aw;have fW:l.drop i=l[i]::l.drop (i+1):=iV aw;have iO:l[i]∈l:=kA aw;rw[fW]at aQ;have⟨x,Pa⟩: ∃x,l[i]=x:=⟨_,rfl⟩;rw[Pa]at da aQ iO;have⟨O9,AO⟩:=hx x iO;unfold tG at aQ;rw[ax (show(i:Int)<(l.length:Int) by omega),ae,bd,Zb (Zj aw)];rw[bp];rw[hs.dJ da];rw[bg];have jB:ar ((i:Int)+1)=((i+1:Nat):Int):=Zc;rw[jB];refine Ok.join λaI jV=>?_
  have hA: ∀c,inPlace p x=c->Ok (λo=>o=(.val [.a (ZY ⟨p,G⟩)],s)) (aI [.b c] s):=by
   intro c hc;rw[jV];simp only[au,aq];rw[hc]at aQ;rw[Za];cases c with
   |false=>
    rw[af]at aQ;rw[af];show Ok _ (ba [.a (.i (p:Int)::bU b)] _ s);rw[cT];rw[av];rw[bI hZ];rw[aq];exact aN (l.length-(i+1)) _ _ (by omega) (by grind)
   |true=>
    rw[ae]at aQ;unfold inPlace at hc;rw[aY,br,br]at hc;have⟨k,hk⟩: ∃k:Nat,x-((384*p:Nat):Int)=(k:Int):=by grind
    rw[hk,bp]at aQ;have KA:ar (x-((384*p:Nat):Int))=(k:Int):=by rw[hk];exact Zc
    have hdv:ar ((k:Int).tdiv 8)=((k/8:Nat):Int):=by
     rw[show(k:Int).tdiv 8=((k/8:Nat):Int)from rfl];exact Zc
    have ly:(k:Int).tmod 8=((k%8:Nat):Int):=rfl;rw[ae,bd,Zb (Zj aw),hs.dJ da];simp only[bg,KA,hdv,ly,bp];have hk8:k/8<48:=by omega
    have Ax:b[k/8]? =some (b.getD (k/8) 0):=by
     rw[dW,cq (by omega)];rfl
    have JE:=(b.getD (k/8) 0).toNat_lt;rw[Zb (show aR ((k/8:Nat):Int) 48=true from Zj hk8),gZ (i:=k/8*1) (by rw[cR];exact Vb Ax)];rw[bg];rw[Zb (ax (by omega)),Zb (show aR ((k/8:Nat):Int) 48=true from Zj hk8),Z5 (by omega)];have h28:2^(k%8)<=2^7:=nT (by decide) (by omega);have Kr:IntKind.wrap .u8 (1*2^(min (k%8) 8))=((2^(k%8):Nat):Int):=by
     rw[nS (by omega),Int.one_mul,show((2:Int)^(k%8))=((2^(k%8):Nat):Int) by push_cast;rfl];generalize 2^(k%8)=w at h28;show(w:Int)%256=_;omega
    rw[Kr,or8 JE (by omega)];have hor:(b.getD (k/8) 0).toNat|||2^(k%8)<256:=Nat.or_lt_two_pow (n:=8) JE (by omega);have dh:cE (bU b) (k/8*1) [.u (((b.getD (k/8) 0).toNat|||2^(k%8):Nat):Int)]=bU (xP b k):=by
     rw[cR,BJ _ _ _ (by omega)];unfold xP;rw[ZxK];congr 2;show _=(((((b.getD (k/8) 0).toNat|||2^(k%8))%256:Nat)):Int);omega
    rw[dh];show Ok _ (ba [.a (.i (p:Int)::bU (xP b k))] _ s);rw[cT];rw[av];have G4:(bU (xP b k)).length=48:=by rw[Zu,Mr,hb]
    rw[bI G4];rw[aq];exact aN (l.length-(i+1)) _ _ (by omega) ⟨i+1,xP b k,rfl,by omega,aO _,rfl,by rw[Mr,hb],aQ⟩
  cases ua:decide (x>=((384*p:Nat):Int))with
  |false=>
   rw[af];exact hA false (by unfold inPlace;rw[ua,gf])
  |true=>
   rw[ae,bd,Zb (Zj aw),hs.dJ da];rw[bg];exact hA _ (by unfold inPlace;rw[ua,dF])
 .rw[aF (show ¬(i:Int)<(l.length:Int) by omega),af]
  rw[lW (by omega)]at aQ;rw[cT];rw[av];rw[bI hZ];rw[aq];rw[bI (by simp[hZ]),Zd];refine .mk ?_;rw[<-aQ];rfl
def uM (x:ZP):aj:=iS 4 x.no x.eY
theorem ZmG (n:Nat) (x:ZP) (hl:x.eY.length=48) (st:St) (hn:400<=n:=by omega):
  Ok (λo=>∃s',o=(.val [.t (uM x)],s')/\aB st s') (run Bd n 193 [.a (ZY x)] st):=by
 obtain⟨n,rfl⟩: ∃k,n=k+2:=⟨n-2,by omega⟩;rw[Ze,h.aeF];unfold Tp Zm jf pQ Ls ZY
 try dsimp only
 have hZ:(bU x.eY).length=48:=by rw[Zu,hl]
 rw[cT];rw[av];rw[bI hZ];rw[aq];rw[bI (n:=49) (by simp[hZ]),Zz];rw[Zo (i:=st.length) (f:=false) (all:= .i x.no::bU x.eY) (d:= .i x.no) (by simp) rfl];rw[bg];have dt:(DV.i x.no::bU x.eY).length=49:=by simp[hZ]
 rw[IG (by rw[dt];omega),IG (by rw[dt];omega)];have GI:(List.drop 1 (DV.i x.no::bU x.eY)).take 48=ZQ x.eY:=by
  rw[List.drop_succ_cons,dK,dG (by omega),lr]
 rw[GI,oJ];refine Ok.cv (By (n+1) 4 x.no x.eY (by omega) _) λs1 aH=>?_
 rw[bR,aq,Zd];exact .mk ⟨s1,rfl,(aB.new _ _).trans aH⟩
structure uJ (x:cy):Prop where
 s0:1<=x.seq
 s1:x.seq<=4611686018427387904
 g:oY x.blocks x.de x.g=true
 u0:0<=x.used
 u1:x.used<=x.de
 f0:0<=x.free
 f1:x.free<=x.used
 t0:x.used=0->x.cc=0
 t1:0<x.used->nK x x.cc=true
 d:x.dir≠0->nK x x.dir=true
 len:(x.aJ.length:Int)=BK x.blocks x.de x.g
 ch: ∀i,i<x.aJ.length->nK x (x.aJ.getD i 0)=true/\x.aJ.getD i 0∉x.aJ.take i
theorem Zta (x:cy):qD x=true↔ ∀i,i<x.aJ.length->nK x (x.aJ.getD i 0)=true/\x.aJ.getD i 0∉x.aJ.take i:=by
 simp[qD]
theorem BC (x:cy):ZU x=true↔uJ x:=by
 unfold ZU;rw[aY,aY,Zta,lF,lF];simp only[C6,zB,Bool.not_eq_false'];constructor
 .rintro⟨⟨a1,a2,a3,a4,a5,a6,a7⟩,⟨b1,b2,b3,b4⟩,c⟩
  refine⟨by omega,by omega,a3,by omega,by omega,by omega,by omega,λh=>?_,λh=>?_,λh=>?_,?_,c⟩
  .rw[h]at b1
   simpa using b1
  .rw[ax h,ae]at b2
   simpa using b2
  .rw[show(x.dir==0)=false from eG.2 h,bn,ae]at b3
   simpa using b3
  .simpa using b4
 .intro h
  refine⟨⟨by have:=h.s0;omega,by have:=h.s1;omega,h.g,by have:=h.u0;omega,by have:=h.u1;omega,by have:=h.f0;omega,by have:=h.f1;omega⟩,⟨?_,?_,?_,?_⟩,h.ch⟩
  .by_cases hu:x.used=0
   .rw[h.t0 hu];cases(x.used==0)<;>rfl
   grind
  .by_cases hu:0<x.used
   .rw[h.t1 hu];cases decide (x.used>0)<;>rfl
   grind
  .by_cases hu:x.dir=0
   .rw[hu];rfl
   .rw[h.d hu];cases(!(x.dir==0))<;>rfl
  simp[h.len]
theorem Vd (x:cy) (k:Int):nK x k=true↔2<=k/\k<x.blocks:=by
 simp[nK]
theorem TA {b s g:Int} (h:oY b s g=true):BK b s g=(((b.toNat+383)/384:Nat):Int):=by
 have⟨g1,g2,_⟩:=Z4 h;unfold BK rK;rw[h,ae];obtain⟨m,rfl⟩: ∃m:Nat,b=m:=⟨b.toNat,by omega⟩;rw[bp,Zc (x:=(m:Int)+384),Zc (x:=(m:Int)+384-1),show((m:Int)+384-1)=((m+383:Nat):Int) by omega,show(((m+383:Nat):Int).tdiv 384)=(((m+383)/384:Nat):Int)from rfl];exact Zc
theorem ZyC {Q:Out ah×St->Prop} {Kn:ah->M ah} (n:Nat) (b:Int) (l:ak) (p:ai) (s:St) (hs:Sl s p (ints l)) (hl:l.length<5000) (hn:l.length<n)
  (cA: ∀k∈l,¬(2<=k/\k<b)->Ok Q ((ay [.b false]:M ah) s)) (acn:(∀k∈l,2<=k/\k<b)->Ok Q (Kn [] s)):
  Ok Q (cS (λaV st=>
       aD .i64 st λi st=>
      aL st<|
      bif decide (i<(l.length:Int))then
       bH p λi1 o=>
      aC (aR i l.length)<|
      bD i1 (i.toNat*1+o) λd=>
      cY .i64 d λx=>
      cK (λst=>gC st λb7 st=>aL st<|
       bif b7 then
       ay [.b false]
      else
       aV [.i (ar (i+1))]) λkR=>
      bif decide (x<2)then
       kR [.b true]
      else
       bH p λi2 o1=>
      aC (aR i l.length)<|
      bD i2 (i.toNat*1+o1) λd1=>
      cY .i64 d1 λx1=>
      kR [.b (decide (x1>=b))]
      else
       Kn []) n [.i 0] s):=by
 refine Zi _ (λq y t=>∃i:Nat,y=[.i (i:Int)]/\i<=l.length/\l.length-i<=q/\t=s/\∀k∈l.take i,2<=k/\k<b) ?_ l.length n _ _ (by grind) hn;rintro q _ t ⟨i,rfl,hi,hq,rfl,dt⟩ rec aN;rw[av,aq];by_cases aw:i<l.length
 .obtain⟨i1,o1,rfl⟩:=hs.cH (by simp[ints];omega)
  have da:(ints l)[i]? =some (.i l[i]):=ZD aw;have fZ:l.take (i+1)=l.take i++[l[i]]:=lX aw;have iO:l[i]∈l:=kA aw;rw[ax (show(i:Int)<(l.length:Int) by omega),ae,bd,Zb (Zj aw)];rw[bp];rw[hs.dJ da];rw[bg];generalize l[i]=x at da fZ iO;rw[Za];by_cases h2:x<2
  .rw[ax h2,ae]
   simp only[au,aq,ae];grind
  .rw[aF h2,af,bd,Zb (Zj aw),hs.dJ da]
   simp only[bg,au,aq];by_cases h3:x>=b
   .rw[ax h3,ae]
    grind
   .rw[aF h3,af,Zc]
    refine aN (l.length-(i+1)) _ _ (by omega) ⟨i+1,rfl,by omega,aO _,rfl,λk hk=>?_⟩;rw[fZ]at hk;grind
 .rw[aF (show ¬(i:Int)<(l.length:Int) by omega),af]
  rw[dG (by omega)]at dt;exact acn dt
theorem Q7 (n:Nat) (x:cy) (p:ai) (st:St) (hs:Sl st p (ints x.aJ)) (hl:x.aJ.length<1000:=by omega) (hn:5000<=n:=by omega):
  Ok (λo=>∃s',o=(.val [.b (ZU x)],s')/\aB st s') (run Bd n 195 [.a (dj x p)] st):=by
 obtain⟨n,rfl⟩: ∃k,n=k+2:=⟨n-2,by omega⟩;rw[Ze,h.aeH];unfold Se xD aA fB Q_ cN Zn kd lY bq Lb Li dY aZ uR dj
 try dsimp only
 rw[cT];simp only[av,aX,aq];have hF: ∀s,aB st s->¬uJ x->Ok (λo=>∃s',o=(.val [.b (ZU x)],s')/\aB st s') ((ay [.b false]:M ah) s):=λs hp e=>by
  have:ZU x=false:=by
   cases hs:ZU x with
   |false=>rfl
   |true=>exact absurd ((BC x).1 hs) e
  rw[this,Zd];exact .mk ⟨s,rfl,hp⟩
 rw[Za];by_cases h1:x.seq<1
 .rw[ax h1,ae]
  simp only[au,aq];rw[Za,ae];simp only[au,aq];rw[ae];exact hF st (.refl st) λk=>by have:=k.s0;omega
 rw[aF h1,af];simp only[au,aq];rw[Za];by_cases h2:x.seq>4611686018427387904
 .rw[ax h2,ae]
  simp only[au,aq];rw[ae];exact hF st (.refl st) λk=>by have:=k.s1;omega
 rw[aF h2,af,Zk (ZkR n x.blocks x.de x.g st)];simp only[au,aq];cases hg:oY x.blocks x.de x.g with
 |false=>
  rw[bn,ae];exact hF st (.refl st) λk=>by have:=k.g;rw[hg]at this;cases this
 |true=>
 have⟨g1,g2,g3,g4,g5,g6⟩:=Z4 hg;rw[bu,af,Za];by_cases h3:x.used<0
 .rw[ax h3,ae]
  simp only[au,aq];rw[Za,ae];simp only[au,aq];rw[Za,ae];simp only[au,aq];rw[Za,ae];simp only[au,aq];rw[ae];exact hF st (.refl st) λk=>by have:=k.u0;omega
 rw[aF h3,af];by_cases h4:x.used>x.de
 .rw[ax h4]
  simp only[au,aq];rw[Za,ae];simp only[au,aq];rw[Za,ae];simp only[au,aq];rw[Za,ae];simp only[au,aq];rw[ae];exact hF st (.refl st) λk=>by have:=k.u1;omega
 rw[aF h4];simp only[au,aq];rw[Za,af];by_cases h5:x.free<0
 .rw[ax h5]
  simp only[au,aq];rw[Za,ae];simp only[au,aq];rw[Za,ae];simp only[au,aq];rw[ae];exact hF st (.refl st) λk=>by have:=k.f0;omega
 rw[aF h5];simp only[au,aq];rw[Za,af];by_cases h6:x.free>x.used
 .rw[ax h6]
  simp only[au,aq];rw[Za,ae];simp only[au,aq];rw[ae];exact hF st (.refl st) λk=>by have:=k.f1;omega
 rw[aF h6];simp only[au,aq];rw[Za,af];have⟨m,hm⟩: ∃m:Nat,x.blocks=m:=⟨x.blocks.toNat,by omega⟩;have yr:=TA hg;rw[hm,bp]at yr;rw[hm];refine Ok.NP (Zjm (n+1) m x.de x.g (by omega) st) ?_;rintro _ rfl;refine⟨_,st,rfl,?_⟩;simp only[av,au,aq];by_cases h7:(x.aJ.length:Int)=(((m+383)/384:Nat):Int);rotate_left
 .rw[show((x.aJ.length:Int)==(((m+383)/384:Nat):Int))=false from eG.2 h7,bn,ae]
  exact hF st (.refl st) λk=>by have:=k.len;rw[hm,yr]at this;exact h7 this
 rw[show((x.aJ.length:Int)==(((m+383)/384:Nat):Int))=true by rw[h7];simp,bu,af];have fP: ∀k,nK x k=true↔2<=k/\k<(m:Int):=λk=>by rw[Vd,hm]
 refine Ok.join λgN XK=>?_
 have A7: ∀(q:ai) (z:Nat) (l:ak) (s:St),bm st s q (ints l)->(z=1\/q=none)->l.length<=1->(x.used=0->x.cc=0)->(l=if x.used=0 then[]else[x.cc])->Ok (λo=>∃s',o=(.val [.b (ZU x)],s')/\aB st s') (gN [.s z q l.length] s):=by
  intro q z l s ho hz pw Hf hle;rw[XK];simp only[Zg 1 z q _ hz,aq];refine Ok.join λiC XL=>?_
  have A8: ∀(q:ai) (l:ak) (s:St),bm st s q (ints l)->l.length<=2->(l=(if x.used=0 then[]else[x.cc])++(if x.dir=0 then[]else[x.dir]))->Ok (λo=>∃s',o=(.val [.b (ZU x)],s')/\aB st s') (iC [.s 1 q l.length] s):=by
   intro q l s ho rk hle;rw[XL];simp only[aX,aq];refine Ok.join λiD Ou=>?_
   have ahf: ∀i k,i<x.aJ.length->k<i->x.aJ[k]? =x.aJ[i]? ->¬uJ x:=λi k hi hk e hS=>by
    have:=(hS.ch i hi).2;rw[dW,cq hi]at this;refine this (List.mem_take_iff_getElem.2 ⟨k,by omega,?_⟩);rw[cq (by omega),cq hi]at e;exact HJ e
   refine Zi _ (λr y t=>∃(i z:Nat) (q:ai),y=[.s z q (l++x.aJ.take i).length,.i (i:Int)]/\(z=1\/q=none)/\i<=x.aJ.length/\x.aJ.length-i<=r/\bm st t q (ints (l++x.aJ.take i))/\∀j,j<i->x.aJ.getD j 0∉x.aJ.take j) ?_ x.aJ.length (n+1) _ _ ⟨0,1,q,by simp,.inl rfl,cz _,by omega,by simpa using ho,by omega⟩ (by omega);rintro r _ t ⟨i,z,q,rfl,hz,hi,hr,ho,Oj⟩ rec aN;simp only[av,Zg 1 z q _ hz,aq];have cg:=hs.mono ho.1;by_cases aw:i<x.aJ.length
   .obtain⟨i1,o1,rfl⟩:=hs.cH (by simp[ints];omega)
    have da:(ints x.aJ)[i]? =some (.i x.aJ[i]):=ZD aw;have fZ:x.aJ.take (i+1)=x.aJ.take i++[x.aJ[i]]:=lX aw;rw[ax (by omega),ae,Za,bd,Zb (Zj aw)];rw[bp];rw[cg.dJ da];rw[bg];have gp:(l++x.aJ.take i).length<=2000:=by rw[bB,cX];omega
    have⟨q2,t2,du,rj,he⟩:=ho.CV (β:=ah) (sz:=1) (n:=(l++x.aJ.take i).length) (lim:=8796093022208) [.i x.aJ[i]] (xp 0) (by simp[ints]) rfl (by omega);refine Eq.mpr (congrArg (Ok _) (he _)) ?_;rw[Za];have Ku:=hs.mono du.1;refine Zi _ (λq y u=>∃k:Nat,y=[.i (k:Int)]/\k<=i/\i-k<=q/\u=t2/\x.aJ[i]∉x.aJ.take k) ?_ i (n+1) _ _ ⟨0,rfl,cz _,by omega,rfl,by simp⟩ (by omega);rintro r2 _ u ⟨k,rfl,hk,ij,rfl,ot⟩ dw j4;rw[av,aq];by_cases hlk:k<i
    .have jn:k<x.aJ.length:=by omega
     have vq:(ints x.aJ)[k]? =some (.i x.aJ[k]):=ZD jn;rw[ax (by omega),ae,bd,Zb (Zj jn)];rw[bp];rw[Ku.dJ vq];simp only[bg];rw[bd,Zb (Zj aw),Ku.dJ da];simp only[bg];by_cases he:x.aJ[k]=x.aJ[i]
     .rw[show(x.aJ[k]==x.aJ[i])=true by rw[he];exact xq _,ae]
      exact hF u du.1 (ahf i k aw hlk (by rw[cq jn,cq aw,he]))
     .rw[show(x.aJ[k]==x.aJ[i])=false from eG.2 he,af,Zc]
      refine j4 (i-(k+1)) _ _ (by omega) ⟨k+1,rfl,by omega,aO _,rfl,?_⟩;rw[lX jn];intro lz;rcases gx.1 lz with lz|lz
      .exact ot lz
      .exact he (cB.1 lz).symm
    .rw[aF (by omega),af]
     have:k=i:=by omega
     subst this;simp only[aX,aq];rw[Zc];refine aN (x.aJ.length-(k+1)) _ _ (by omega) ⟨k+1,1,q2,?_,.inl rfl,by omega,aO _,?_,λj hj=>?_⟩
     .rw[fZ,<-fI,bB (as:=l++x.aJ.take k)];rfl
     .rw[fZ,<-fI]
      unfold ints at du⊢;rw[fq (l₁:=l++x.aJ.take k)];exact du
     .by_cases vu:j=k
      .subst vu
       rw[dW,cq aw];exact ot
      .exact Oj j (by omega)
   .rw[aF (by omega),af]
    have:i=x.aJ.length:=by omega
    subst this;rw[rU]at ho⊢;rw[Ou];simp only[aX,aq];refine Ok.join λko XI=>?_
    refine ZyC (Kn:=ko) (n+1) m (l++x.aJ) q t ho.sl (by rw[bB];omega) (by rw[bB];omega) ?_ ?_
    .intro k hk GG
     refine hF t ho.1 λhS=>GG ?_
     rw[<-fP];rcases gx.1 hk with hk|hk
     .rw[hle]at hk
      rcases gx.1 hk with hk|hk
      .by_cases hu:x.used=0
       .rw[bE hu]at hk;cases hk
       .rw[bj hu]at hk;rw[cB.1 hk];exact hS.t1 (by omega)
      .by_cases hu:x.dir=0
       .rw[bE hu]at hk;cases hk
       .rw[bj hu]at hk;rw[cB.1 hk];exact hS.d hu
     .obtain⟨i,hi,rfl⟩:=List.mem_iff_getElem.1 hk
      have:=(hS.ch i hi).1;rw[dW,cq hi]at this;exact this
    .intro dt
     have:ZU x=true:=by
      refine(BC x).2 ⟨by omega,by omega,hg,by omega,by omega,by omega,by omega,Hf,λhu=>?_,λhu=>?_,by rw[hm,yr];exact h7,λi hi=>⟨?_,Oj i hi⟩⟩
      .rw[fP]
       exact dt _ (gx.2 (.inl (by rw[hle,bj (by omega)];simp)))
      .rw[fP]
       exact dt _ (gx.2 (.inl (by rw[hle,bj hu];simp)))
      .rw[fP,dW,cq hi]
       exact dt _ (gx.2 (.inr (kA hi)))
     rw[XI];simp only[aq];rw[this,Zd];exact .mk ⟨t,rfl,ho.1⟩
  by_cases yu:x.dir=0
  .rw[show(!(x.dir==0))=false by rw[yu];rfl,af]
   grind
  .rw[show(!(x.dir==0))=true by rw[lF];grind,ae]
   have⟨q2,t2,du,rj,he⟩:=ho.CV (β:=ah) (sz:=1) (n:=l.length) (lim:=8796093022208) [.i x.dir] (xp 0) (by simp[ints]) rfl (by omega);refine Eq.mpr (congrArg (Ok _) (he _)) ?_;have:=A8 q2 (l++[x.dir]) t2 (by unfold ints at du⊢;rw[fq];exact du) (by simp;omega) (by rw[bj yu,<-hle]);rw[bB]at this;exact this
 by_cases uj:x.used=0
 .rw[show(x.used==0)=true by rw[uj];rfl,ae]
  by_cases hfn:x.cc=0
  .rw[show(!(x.cc==0))=false by rw[hfn];rfl,af]
   exact A7 none 0 [] st (bm.nil (.refl st)) (.inr rfl) (by simp) (λ_=>hfn) (by rw[bE uj])
  .rw[show(!(x.cc==0))=true by rw[lF];grind,ae]
   exact hF st (.refl st) λk=>hfn (k.t0 uj)
 .rw[show(x.used==0)=false from eG.2 uj,af]
  have⟨q2,t2,du,rj,he⟩:=(bm.nil (.refl st)).CV (β:=ah) (sz:=1) (n:=0) (lim:=8796093022208) [.i x.cc] (xp 0) rfl rfl (by omega);refine Eq.mpr (congrArg (Ok _) (he _)) ?_;exact A7 q2 1 [x.cc] t2 du (.inl rfl) (by simp) (λe=>absurd e uj) (by rw[bj uj])
theorem Zz2 (k m:Nat) (hk:k<64) (h:2^k*(2*m+1)<18446744073709551616):bits .and .u64 ((2^k*(2*m+1):Nat):Int) (IntKind.wrap .u64 (0-((2^k*(2*m+1):Nat):Int)))=((2^k:Nat):Int):=by
 have hp:0<2^k*(2*m+1):=by grind
 have hn:=Zzy k m 64 hk (by omega);generalize 2^k*(2*m+1)=w at h hp hn⊢;have e:IntKind.wrap .u64 (0-(w:Int))=((2^64-w:Nat):Int):=by
  show(0-(w:Int))%18446744073709551616=_;omega
 rw[e,ZwM h,hn]
def Hu (k:Nat):Nat:=(2^k*285870213051353865%18446744073709551616)/288230376151711744
def aam (d:Option DV) (k:Nat):Bool:=match d with
 |some (.u n)=>n==(k:Int)
 |_=>false
theorem Zzo {d:Option DV} (h:aam d k=true):d=some (.u (k:Int)):=by
 unfold aam at h;grind
theorem Zxo: ∀k,k<64->Hu k<64/\aam (PK[Hu k]?) k=true:=by decide+kernel
theorem ZAt (k:Nat) (h:k<64):Hu k<64/\PK[Hu k]? =some (.u (k:Int)):=⟨(Zxo k h).1,Zzo (Zxo k h).2⟩
theorem ZyI (x c:Nat):(IntKind.wrap .u64 ((x:Int)*(c:Int))).fdiv (2^58)=((x*c%18446744073709551616/288230376151711744:Nat):Int):=by
 have e1:((x:Int)*(c:Int))=((x*c:Nat):Int):=by push_cast;rfl
 have e2:(2:Int)^58=((288230376151711744:Nat):Int):=by decide
 rw[e1,ZyZ,e2,tB]
theorem acV:Qg Bd:=by
 intro n k m st ht hk hw;rw[Ze,h.e86];have hand:=Zz2 k m hk hw;have hp:0<2^k*(2*m+1):=by grind
 generalize 2^k*(2*m+1)=w at hand hp hw;have⟨h1,h2⟩:=ZAt k hk;have Kr:(IntKind.wrap .u64 (((2^k:Nat):Int)*285870213051353865)).fdiv (2^58)=(Hu k:Int):=ZyI (2^k) 285870213051353865;unfold HR Wp;rw[av,aq];rw[hand,Kr,show((w:Int)==0)=false from eG.2 (by omega),af,Zb (show aR (Hu k:Int) 64=true from Zj h1),bp,cR,gV];rw[Zo (i:=2) (f:=true) (all:=PK) (d:= .u (k:Int)) (ht 2 _ rfl) h2];rw[bg,Zd];rw[Zc]
end Go.Gv.F
