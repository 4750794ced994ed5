/- A block of an image, taken once: the walker's first steps. -/
import Derived.Test.YtegglibipjjblaaGreatDoorGvZMa
set_option linter.all false
namespace Go.Gv.F
open Go.Gv
variable {β:Type}
variable {k slot u:Int} {i j lim m n sz z:Nat} {s s':St} {α:Type} {cs:ah} {l:aj} {A C L L' L'' T W W':al}
theorem Zyg {m:M α} {K:α->M β} (h:m s=some (.fp,s')):cQ m K s=some (.fp,s'):=by unfold cQ;rw[h]
theorem Ok.wv {P:Out α×St->Prop} {Q:Out β×St->Prop} {m:M α} {K:α->M β} (h:Ok P (m s))
  (k1: ∀s',P (.fp,s')->Q (.fp,s')) (k2: ∀ds s',P (.val ds,s')->Ok Q (K ds s')):Ok Q (cQ m K s):=by
 have⟨⟨o,s'⟩,e,hp⟩:=h;unfold cQ;rw[e];cases o with
 |val ds=>exact k2 ds s' hp
 |fp=>exact .mk (k1 s' hp)
theorem LC (p:ai) (K:ai->M β):BV (.p p) K=K p:=rfl
theorem Zys (s:St):Z1 s.length s=s:=by unfold Z1;simp
variable {Bd:Zh} [h:HA Bd]
theorem Zuw (n:Nat) (b:Bool) (st:St):run Bd (n+1) 225 [.b b] st=some (bif b then(.val [],st)else(.fp,st)):=by
 rw[Ze,h.ae6];unfold Tl jg Q_
 try dsimp only
 rw[au,aq,Za];cases b<;>rfl
theorem tx {Bd:Zh} (h:HA Bd) (n:Nat) {b:Bool} (hb:b=true) (st:St) (K:ah->M β):cQ (run Bd (n+1) 225 [.b b]) K st=K [] st:=by
 rw[hb];exact Zk (Zuw n true st)
theorem oN {Bd:Zh} (h:HA Bd) (n:Nat) {b:Bool} (hb:b=false) (st:St) (K:ah->M β):cQ (run Bd (n+1) 225 [.b b]) K st=some (.fp,st):=by
 rw[hb];exact Zyg (Zuw n false st)
def ZG (img:aj) (k:Nat):aj:=(img.drop (k*64)).take 64
theorem Zmn (n:Nat) (a:ai) (len k:Nat) (st:St) (hl:len<1000000) (hk:(k+1)*64<=len:=by omega):
  run Bd (n+1) 203 [.s 1 a len,.i k] st=some (.val [.s 1 (cU true a (k*64)) 64],st):=by
 rw[Ze,h.aeN];unfold TR oe aZ
 try dsimp only
 rw[aX,av,aq];rw[ZM];have h1:ar ((k:Int)+1)=((k+1:Nat):Int):=Zc;have h2:ar (((k+1:Nat):Int)*64)=(((k+1)*64:Nat):Int):=by rw[Zc];omega
 have h3:ar ((k:Int)*64)=((k*64:Nat):Int):=by rw[Zc];omega
 simp only[h1,h2,h3,bp,cR];rw[Zb (by rw[aY,br,br];omega),Zb (by rw[aY,br,br];omega),Zp,Zys,show(k+1)*64-k*64=64 by omega]
inductive xr where
 |node (x:jL)
 |leaf (x:List bw)
 |cc (x:ak)
 |queue (x:ZH)
 |dir (x:ak)
 |none
def ZV (l:aj):xr:=
 match iY l with
 |some x=> .node x
 |none=>match ZL l with
  |some x=> .leaf x
  |none=>match iM l with
   |some x=> .cc x
   |none=>match ZJ l with
    |some x=> .queue x
    |none=>match lj l with
     |some x=> .dir x
     |none=> .none
def P7 (s:St):xr->DV->Prop
 | .node x,d=>∃p,d= .iface 6 (.a (oA x 1 p))/\Fz s p (ints x.kids)/\oS x=true/\x.kids.length<=12
 | .leaf x,d=>d= .iface 5 (.a (bT x))/\x.length=7
 | .cc x,d=>d= .iface 2 (.a (ints x))/\x.length=16
 | .queue x,d=>d= .iface 4 (.a (Z0 x))/\x.dz.length=12
 | .dir x,d=>∃p,d= .iface 3 (.a [.s 1 p x.length])/\Fz s p (ints x)/\x.length<=16
 | .none,d=>d= .nilIface
theorem Ii {x:List bw} (h:ZL l=some x):x.length=7:=by
 unfold ZL at h;split at h
 .cases h
 .rename_i k t b _
  cases e:(decide (k=2)&&decide (t<128))with
  |false=>rw[e]at h;cases h
  |true=>
   rw[e]at h;cases e2:(ZR b t 7).all ZK with
   |false=>rw[e2]at h;cases h
   |true=>rw[e2]at h;cases h;exact BE b t 7
theorem ZrH (n:Nat) (a:ai) (l:aj) (st:St) (ha:dc st a l) (hl:l.length<1000000) (hn:161<=n):
  Ok (λo=>∃d s',o=(.val [d],s')/\aB st s'/\P7 s' (ZV l) d) (run Bd n 256 [.s 1 a l.length] st):=by
 obtain _|n:=n;omega;rw[Ze,h.afA];unfold Tw bV Fu jg aZ ZV
 try dsimp only
 rw[aX,aq];refine Ok.call (Zuh n a l st ha hl (by omega)) ?_;rintro _ ⟨s1,aH,rq⟩;cases oq:iY l with
 |some x=>
  rw[oq]at rq;obtain⟨p,rfl,hf⟩:=rq;refine⟨_,s1,rfl,?_⟩;unfold oA fk;simp only[nQ,jH,cT,av,aX,au,aq,ae,Zd];exact .mk ⟨_,s1,rfl,aH,p,rfl,hf,(MR oq).1,(MR oq).2⟩
 |none=>
 rw[oq]at rq;subst rq;refine⟨_,s1,rfl,?_⟩;simp only[cT,av,au,aq,Zg 1 0 none _ (.inr rfl),af];have tT:=ha.mono aH;refine Ok.call (ZoJ n a l s1 tT hl (by omega)) ?_;rintro _ ⟨s2,aU,du⟩;cases p8:ZL l with
 |some x=>
  rw[p8]at du;subst du;refine⟨_,s2,rfl,?_⟩;have hlen:(bT x).length=21:=by rw[ZB,Ii p8]
  rw[cT,au,aq,ae];rw[bI hlen,bI hlen,Zd];exact .mk ⟨_,s2,rfl,aH.trans aU,rfl,Ii p8⟩
 |none=>
 rw[p8]at du;subst du;refine⟨_,s2,rfl,?_⟩;rw[cT,au,aq,af];rw[bI (cs:=bT nH) (n:=21) rfl,bI (cs:=bT nH) (n:=21) rfl];have Av:=tT.mono aU;refine Ok.call (Zql n a l s2 Av hl (by omega)) ?_;rintro _ ⟨s3,cu,nE⟩;cases JL:iM l with
 |some x=>
  rw[JL]at nE;obtain⟨rfl,hx⟩:=nE;refine⟨_,s3,rfl,?_⟩;have hlen:(ints x).length=16:=by simp[ints,hx]
  rw[cT,au,aq,ae];rw[bI hlen,bI hlen,Zd];exact .mk ⟨_,s3,rfl,(aH.trans aU).trans cu,rfl,hx⟩
 |none=>
 rw[JL]at nE;subst nE;refine⟨_,s3,rfl,?_⟩;rw[cT,au,aq,af];rw[bI (cs:=ints (List.replicate 16 0)) (n:=16) rfl,bI (cs:=ints (List.replicate 16 0)) (n:=16) rfl];have ha3:=Av.mono cu;refine Ok.call (Zne n a l s3 ha3 hl (by omega)) ?_;rintro _ ⟨s4,fy,sM⟩;cases hg4:ZJ l with
 |some x=>
  rw[hg4]at sM;obtain⟨rfl,hx⟩:=sM;refine⟨_,s4,rfl,?_⟩;have hlen:(ints x.dz).length=12:=by simp[ints,hx]
  unfold Z0;rw[cT,bR,av,au,aq,ae];rw[bI hlen,bI (by simp[hlen]),Zd];exact .mk ⟨_,s4,rfl,((aH.trans aU).trans cu).trans fy,rfl,hx⟩
 |none=>
 rw[hg4]at sM;subst sM;refine⟨_,s4,rfl,?_⟩;unfold Z0;rw[cT,bR,av,au,aq,af];rw[bI (cs:=ints DX.dz) (n:=12) rfl,bI (n:=14) rfl];have ha4:=ha3.mono fy;refine Ok.call (ZoX n a l s4 ha4 hl (by omega)) ?_;rintro _ ⟨s5,jZ,qc⟩;cases hg5:lj l with
 |some x=>
  rw[hg5]at qc;obtain⟨p,rfl,hf,hx⟩:=qc;refine⟨_,s5,rfl,?_⟩;simp only[cT,aX,au,aq,ae,Zd];exact .mk ⟨_,s5,rfl,(((aH.trans aU).trans cu).trans fy).trans jZ,p,rfl,hf,hx⟩
 |none=>
 rw[hg5]at qc;subst qc;refine⟨_,s5,rfl,?_⟩;simp only[cT,Zg 1 0 none _ (.inr rfl),au,aq,af,Zd];exact .mk ⟨_,s5,rfl,(((aH.trans aU).trans cu).trans fy).trans jZ,rfl⟩
def fO (m:Nat) (W:al) (k:Int):Bool:=decide (k>=2)&&(fE m k&& !di W k.toNat)
theorem ZzV {Bd:Zh} (h:HA Bd) (n w:Nat) (a:ai) (img:aj) (k:Int) (st:St)
  (hw:st[w]? =some (some ⟨false,cs⟩)) (h0:cs[0]? =some (.s 1 a img.length)) (h2:cs[2]? =some (.i m)) (N3:cs[10]? =some (.p (some (i,0))))
  (hs:gy st false i j m W) (mn:i≠j) (hjw:w≠j) (ha:dc st a img) (Er:lI [j] a) (hm:m*64<=img.length) (hl:img.length<1000000) (hn:170<=n):
  Ok (λo=>bif fO m W k then ∃d s',o=(.val [d],s')/\Fx [j] st s'/\gy s' false i j m (bK m W k)/\P7 s' (ZV (ZG img k.toNat)) d else o=(.fp,st)) (run Bd n 228 [.p (some (w,0)),.i k] st):=by
 obtain⟨n,rfl⟩: ∃k,n=k+4:=⟨n-4,by omega⟩;rw[Ze,h.ae9];unfold Qx pP aA C_ iL uC bq Zm Lb Li dY aZ ix fO;simp only[eH,av,aq,Za,bd];by_cases jn:k>=2;rotate_left
 .rw[aF jn,af]
  simp only[au,aq,af,gf];rw[oN h (n+2) rfl];exact .mk rfl
 rw[ax jn,ae,Zo hw h2];simp only[bg,au,aq,dF];have abS:fE m k=decide (k<(m:Int)):=by grind[fE]
 rw[abS];by_cases vv:k<(m:Int);rotate_left
 .rw[aF vv,af]
  simp only[gf,af];rw[oN h (n+2) rfl];exact .mk rfl
 rw[ax vv,ae,Zo hw N3];rw[LC,dF];rw[Zk (Zny (n+1) k st hs),abS,ax vv,dF];rw[au,aq];cases gM:di W k.toNat with
 |true=>
  simp only[bu,af];rw[oN h (n+2) rfl];exact .mk rfl
 |false=>
  simp only[bn,ae];rw[tx h (n+2) rfl];rw[aq];rw[Zo hw N3];rw[LC];rw[Zz];have aH:=aB.new st (some (⟨false,[DV.i k]⟩:bO));have eX:Sl (st++[some (⟨false,[DV.i k]⟩:bO)]) (some (st.length,0)) (ints [k]):=Nt st [DV.i k];have dA:lI [j] (some (st.length,0)):=by
   intro b o e hb;cases e;have:=(ef.1 hs.wd).1;rw[cB.1 hb]at this;omega
  generalize st++[some (⟨false,[DV.i k]⟩:bO)]=s1 at aH eX;have kO:=hs.pre aH;have abj:=H3 (n+3) [k] (some (st.length,0)) s1 kO mn eX dA (by simp) (by simp;omega);rw[show[k].length=1 from rfl]at abj;rw[Zk abj];rw[aq];have ace:=kO.add mn (bK m W k) (oM _ _ _) (VC kO.lt);have cM:Fx [j] st (s1.set j (some ⟨false,Zv (bK m W k)⟩)):=(Fx.pre [j] aH).trans (Fx.set s1 j _);have e1:[k].foldl (bK m) W=bK m W k:=rfl;rw[e1];generalize s1.set j (some ⟨false,Zv (bK m W k)⟩)=s2 at ace cM;have fR:=cM.2 w _ (by simpa using hjw) hw;have Av:dc s2 a img:=Sl.fx ha cM Er;rw[Zo fR h0];rw[kb];obtain⟨kk,rfl⟩: ∃kk:Nat,k=kk:=⟨k.toNat,by omega⟩;rw[Zk (Zmn (n+2) a img.length kk s2 hl)];rw[aX,aq];have Ek:dc s2 (cU true a (kk*64)) (ZG img kk):=(Av.cU (k:=kk*64) (by omega)).lC 64;have Oy:(ZG img kk).length=64:=by unfold ZG;rw[cX,fa];omega
  have hb:=ZrH (n+3) _ (ZG img kk) s2 Ek (by omega) (by omega);rw[Oy]at hb;refine Ok.call hb ?_;rintro _ ⟨d,s3,rfl,cu,hblk⟩;refine⟨_,s3,rfl,?_⟩;rw[Dh,aq,Zd];exact .mk ⟨d,s3,rfl,cM.trans (Fx.pre [j] cu),ace.pre cu,hblk⟩
structure cy where
 seq:Int
 blocks:Int
 de:Int
 g:Int
 cc:Int
 used:Int
 free:Int
 dir:Int
 aJ:ak
structure aS where
 W:al
 aG:List bw
 aM:List dP
 aK:ak
 free:ak
 nodes:Int
structure bL where
 w:Nat
 i:Nat
 j:Nat
 m:Nat
 a:ai
 img:aj
 sup:cy
 pc:ai
def dN (z:Nat) (p:ai) (n:Nat):DV:= .s z p n
def rM (K:bL) (v:aS) (c11 c15 c16 c17:DV):ah:=
 [.s 1 K.a K.img.length,.i K.sup.seq,.i K.sup.blocks,.i K.sup.de,.i K.sup.g,.i K.sup.cc,.i K.sup.used,.i K.sup.free,.i K.sup.dir,.s 1 K.pc K.sup.aJ.length,
  .p (some (K.i,0)),c11,.i K.sup.blocks,.i K.sup.de,.i K.sup.g,c15,c16,c17,.i v.nodes]
def aP:ai->al
 |none=>[]
 |some (b,_)=>[b]
theorem lI.aP {L:al} {a:ai} (h: ∀b∈aP a,b∉L):lI L a:=by
 intro b o e;grind[F.aP]
theorem bm.fx {a:ai} (h:bm [] s a cs) (k:Fx T s s') (n: ∀b∈aP a,b∉T):bm [] s' a cs:=by
 refine⟨⟨s',rfl⟩,?_⟩;rcases h.2 with h1|⟨i,rfl,h2,h3⟩
 .exact .inl h1
 .exact .inr ⟨i,rfl,h2,k.2 i _ (n i (by simp[aP])) h3⟩
theorem bm.Gf {a:ai} (h:bm [] s a cs): ∀b∈aP a,b<s.length:=by
 rcases h.2 with⟨rfl,_⟩|⟨i,rfl,_,h3⟩
 .intro b hb;cases hb
 .intro b hb;rw[cB.1 hb];grind
theorem zX {a:ai} (h:bm [] s a cs) (ds:ah) (hz:0<sz) (hn:cs.length=n*sz) (hd:ds.length=sz) (hl:n+1<=lim:=by omega):
  ∃b s',s.length<=b/\bm [] s' (some (b,0)) (cs++ds)/\Fx (aP a) s s'/\∀K:ai->M β,(cd ds λi=>bS i 0 sz λcs'=>cm sz a n cs' 1 lim K) s=K (some (b,0)) s':=by
 have⟨b,s',h1,h2,_,h4,h5⟩:=h.Pz (β:=β) ds hz hn hd hl;refine⟨b,s',h1,h2,⟨?_,λi x hi e=>h4 i x e ?_⟩,h5⟩
 .have:=bm.Gf h2 b (by simp[aP]);omega
 grind[aP]
def qC (s:St) (L:al):ah->List dP->Prop
 |ds,[]=>ds=[]
 |ds,x::r=>∃z p t,(z=4\/p=none)/\ds=ml x z p++t/\Sl s p (bY x.cj)/\lI L p/\qC s L t r
theorem qC.fx {s s':St} {L L':al} (k:Fx L s s') (hL: ∀x∈L',x∈L\/s.length<=x): ∀ {ds:ah} {xs:List dP},qC s L ds xs->qC s' L' ds xs
 |_,[],h=>h
 |_,_::_,⟨z,p,t,hz,h1,h2,h3,h4⟩=>⟨z,p,t,hz,h1,h2.fx k h3,h3.new h2 hL,h4.fx k hL⟩
theorem qC.aM {s:St} {L:al} : ∀ {ds:ah} {xs:List dP},qC s L ds xs->kB s ds xs
 |_,[],h=>h
 |_,_::_,⟨z,p,t,hz,h1,h2,_,h4⟩=>⟨z,p,t,hz,h1,h2,h4.aM⟩
theorem qC.push {s:St} {L:al} {x:dP} {z:Nat} {p:ai} (hz:z=4\/p=none) (hs:Sl s p (bY x.cj)) (ho:lI L p): ∀ {ds:ah} {xs:List dP},qC s L ds xs->qC s L (ds++ml x z p) (xs++[x])
 |ds,[],h=>⟨z,p,[],hz,by rw[show ds=[]from h];rfl,hs,ho,rfl⟩
 |_,_::_,⟨z',p',t,CF,h1,h2,h3,h4⟩=>⟨z',p',t++ml x z p,CF,by rw[h1,fI],h2,h3,h4.push hz hs ho⟩
structure eD (K:bL) (s:St) (v:aS) (L:List Nat) (z1:Nat) (p1:Option (Nat×Nat)) (z2:Nat) (p2:Option (Nat×Nat)) (z3:Nat) (p3:Option (Nat×Nat)) (z4:Nat) (p4:Option (Nat×Nat)) (hd:List DV):Prop where
 cell:s[K.w]? =some (some ⟨false,rM K v (dN z1 p1 v.aG.length) (dN z2 p2 v.aM.length) (dN z3 p3 v.aK.length) (dN z4 p4 v.free.length)⟩)
 e1:z1=3\/p1=none
 e2:z2=2\/p2=none
 e3:z3=1\/p3=none
 e4:z4=1\/p4=none
 o1:bm [] s p1 (bT v.aG)
 o2:bm [] s p2 hd
 o3:bm [] s p3 (ints v.aK)
 o4:bm [] s p4 (ints v.free)
 aM:qC s L hd v.aM
 set:gy s false K.i K.j K.m v.W
 img:dc s K.a K.img
 off:lI L K.a
 own:L=K.w::K.i::K.j::(aP p1++(aP p2++(aP p3++aP p4)))
 nodup:L.Nodup
def Wk (K:bL) (s:St) (v:aS) (L:al):Prop:=∃z1 p1 z2 p2 z3 p3 z4 p4 hd,eD K s v L z1 p1 z2 p2 z3 p3 z4 p4 hd
def Nw (L:al) (s:St) (L':al):Prop:=∀x∈L',x∈L\/s.length<=x
theorem Nw.refl (L:al) (s:St):Nw L s L:=λ_ h=> .inl h
theorem Nw.trans (h:Nw L s L') (hs:s.length<=s'.length) (k:Nw L' s' L''):Nw L s L'':=λx hx=>by
 rcases k x hx with h1|h1
 .exact h x h1
 omega
theorem Mp {B:al} {b:Nat} (h:(A++(B++C)).Nodup) (hl: ∀x∈A++(B++C),x<n) (hb:n<=b):(A++([b]++C)).Nodup:=by
 rw[rR]at h⊢;have⟨h1,h2,h3⟩:=h;rw[rR]at h2;have⟨_,h4,_⟩:=h2;refine⟨h1,?_,?_⟩
 .rw[List.singleton_append,zA]
  refine⟨λhm=>?_,h4⟩;have:=hl b (by simp[hm]);omega
 .intro x hx y hy
  rcases gx.1 hy with hy|hy
  .rw[cB.1 hy]
   have:=hl x (by simp[hx]);omega
  grind
variable {K:bL} {s:St} {v:aS} {L:al} {z1 z2 z3 z4:Nat} {p1 p2 p3 p4:ai} {hd:ah}
theorem eD.lt (h:eD K s v L z1 p1 z2 p2 z3 p3 z4 p4 hd): ∀x∈L,x<s.length:=by
 intro x hx;rw[h.own]at hx;simp only[eF,gx]at hx;rcases hx with rfl|rfl|rfl|hx|hx|hx|hx
 .exact(ef.1 h.cell).1
 .exact(ef.1 h.set.hd).1
 .exact(ef.1 h.set.wd).1
 .exact bm.Gf h.o1 x hx
 .exact bm.Gf h.o2 x hx
 .exact bm.Gf h.o3 x hx
 .exact bm.Gf h.o4 x hx
theorem eD.EM (h:eD K s v L z1 p1 z2 p2 z3 p3 z4 p4 hd):K.w∈L:=by rw[h.own];simp
theorem eD.w5 (h:eD K s v L z1 p1 z2 p2 z3 p3 z4 p4 hd):K.j∈L:=by rw[h.own];simp
theorem eD.ne (h:eD K s v L z1 p1 z2 p2 z3 p3 z4 p4 hd):K.w≠K.i/\K.w≠K.j/\K.i≠K.j/\(∀x∈aP p1++(aP p2++(aP p3++aP p4)),x≠K.w/\x≠K.i/\x≠K.j):=by
 have hn:=h.nodup;rw[h.own]at hn;simp only[zA,eF,not_or]at hn;grind
theorem eD.j6 (h:eD K s v L z1 p1 z2 p2 z3 p3 z4 p4 hd) (k:Fx T s s') (hT: ∀x∈T,x∉L) (ha:lI T K.a) (hh:qC s' L hd v.aM):eD K s' v L z1 p1 z2 p2 z3 p3 z4 p4 hd:=by
 have hm: ∀x∈L,x∉T:=λx hx EC=>hT x EC hx
 have ho:=h.own;refine⟨k.2 _ _ (hm _ h.EM) h.cell,h.e1,h.e2,h.e3,h.e4,h.o1.fx k λb hb=>hm b ?_,h.o2.fx k λb hb=>hm b ?_,h.o3.fx k λb hb=>hm b ?_,h.o4.fx k λb hb=>hm b ?_,hh,h.set.fx k (hm _ (by rw[ho];simp)) (hm _ h.w5),Sl.fx h.img k ha,h.off,ho,h.nodup⟩
 all_goals rw[ho];simp[hb]
theorem eD.pre {s':St} (h:eD K s v L z1 p1 z2 p2 z3 p3 z4 p4 hd) (k:aB s s'):eD K s' v L z1 p1 z2 p2 z3 p3 z4 p4 hd:=
 h.j6 (Fx.pre [] k) (λ_ h=>by cases h) (λ_ _ _ h=>by cases h) (h.aM.fx (Fx.pre L k) (Nw.refl L s))
theorem eD.ajA (h:eD K s v L z1 p1 z2 p2 z3 p3 z4 p4 hd) (k:Fx [K.j] s s') (hs:gy s' false K.i K.j K.m W'):eD K s' { v with W:=W' } L z1 p1 z2 p2 z3 p3 z4 p4 hd:=by
 have dM:=h.ne;refine⟨k.2 _ _ (by simpa using dM.2.1) h.cell,h.e1,h.e2,h.e3,h.e4,h.o1.fx k λb hb=>?_,h.o2.fx k λb hb=>?_,h.o3.fx k λb hb=>?_,h.o4.fx k λb hb=>?_,h.aM.fx (k.mono λx hx=>by rw[cB.1 hx];exact h.w5) (Nw.refl L s),hs,Sl.fx h.img k λb o e hb=>h.off b o e (by rw[cB.1 hb];exact h.w5),h.off,h.own,h.nodup⟩
 all_goals simpa using (by grind)
def dO (K:bL) (k:Int) (v:aS):Option (xr×aS):=bif fO K.m v.W k then some (ZV (ZG K.img k.toNat), { v with W:=bK K.m v.W k })else none
theorem eD.take {Bd:Zh} (hB:HA Bd) (n:Nat) (k:Int) (hm:K.sup.blocks=(K.m:Int)) (hi:K.m*64<=K.img.length) (hl:K.img.length<1000000) (hn:170<=n) (h:eD K s v L z1 p1 z2 p2 z3 p3 z4 p4 hd):
  Ok (λo=>match dO K k v with
   |none=>o=(.fp,s)
   |some (b,v')=>∃d s',o=(.val [d],s')/\eD K s' v' L z1 p1 z2 p2 z3 p3 z4 p4 hd/\Fx [K.j] s s'/\P7 s' b d) (run Bd n 228 [.p (some (K.w,0)),.i k] s):=by
 have dM:=h.ne;refine(ZzV hB n K.w K.a K.img k s h.cell rfl (by rw[<-hm];rfl) rfl h.set dM.2.2.1 dM.2.1 h.img (λb o e hb=>h.off b o e (by rw[cB.1 hb];exact h.w5)) hi hl hn).mono ?_;intro o ho;unfold dO;cases hf:fO K.m v.W k with
 |false=>rw[hf]at ho;exact ho
 |true=>
  rw[hf]at ho;obtain⟨d,s',rfl,cM,hs,hb⟩:=ho;exact⟨d,s',rfl,h.ajA cM hs,cM,hb⟩
theorem MC: ∀ {l:List bw} {j:Nat} {x:bw},l[j]? =some x->((bT l).drop (j*3)).take 3=eL x
 |[],j,e,h=>by simp at h
 |x::l,0,e,h=>by
  simp only[kY,fT]at h;subst h;rfl
 |x::l,j+1,e,h=>by
  have e2:bT (x::l)=eL x++bT l:=rfl;rw[e2,show(j+1)*3=(eL x).length+j*3 by show _=3+_;omega,<-kW,C8];exact MC (by simpa using h)
def rZ (K:bL) (s:St) (L:al) (r:Option aS) (ds:ah) (o:Out ah×St):Prop:=match r with
 |none=>∃s',o=(.fp,s')/\Fx L s s'
 |some v=>∃s' L',o=(.val ds,s')/\Wk K s' v L'/\Fx L s s'/\Nw L s L'
theorem eD.ajy (h:eD K s v L z1 p1 z2 p2 z3 p3 z4 p4 hd) (x:bw) (hl:v.aG.length<1000000):
  ∃b s1 s2 L',(∀Kc:ai->M β,(cd (eL x) λi=>bS i 0 3 λcs'=>cm 3 p1 v.aG.length cs' 1 2932031007402 Kc) s=Kc (some (b,0)) s1)/\
   (∀Kc:M β,dI K.w 11 [.s 3 (some (b,0)) (v.aG.length+1)] Kc s1=Kc s2)/\Wk K s2 { v with aG:=v.aG++[x] } L'/\Fx L s s2/\Nw L s L':=by
 have⟨b,s1,hb,ho,cM,he⟩:=zX (β:=β) (lim:=2932031007402) h.o1 (sz:=3) (n:=v.aG.length) (eL x) (by omega) (ZB _) rfl;have dM:=h.ne;have cG:=cM.2 K.w _ (by grind) h.cell;have D6: ∀x∈aP p1,x∈L:=λx hx=>by rw[h.own];simp[hx]
 let L':=K.w::K.i::K.j::(aP (some (b,0))++(aP p2++(aP p3++aP p4)))
 have fX:Fx L s (s1.set K.w (some ⟨false,rM K { v with aG:=v.aG++[x] } (dN 3 (some (b,0)) (v.aG.length+1)) (dN z2 p2 v.aM.length) (dN z3 p3 v.aK.length) (dN z4 p4 v.free.length)⟩)):=
  (cM.mono D6).trans ((Fx.set s1 K.w _).mono λy hy=>by rw[cB.1 hy];exact h.EM)
 have jo:=h.nodup;rw[h.own]at jo;have Eo:(K.w::K.i::K.j::(aP (some (b,0))++(aP p2++(aP p3++aP p4)))).Nodup:=Mp (A:=[K.w,K.i,K.j]) (B:=aP p1) jo (λy hy=>h.lt y (by rw[h.own];exact hy)) hb;have gX:Nw L s L':=λy hy=>by
  have EF:y∈K.w::K.i::K.j::([b]++(aP p2++(aP p3++aP p4))):=hy;rw[h.own];simp only[eF,gx,List.mem_nil_iff,oH]at EF⊢;grind
 have akG: ∀y,y∉aP p1->y≠K.w->∀c,s[y]? =some c->(s1.set K.w (some ⟨false,rM K { v with aG:=v.aG++[x] } (dN 3 (some (b,0)) (v.aG.length+1)) (dN z2 p2 v.aM.length) (dN z3 p3 v.aK.length) (dN z4 p4 v.free.length)⟩))[y]? =some c:=λy h1 h2 c hc=>by
  rw[jv (by omega)];exact cM.2 y c h1 hc
 have fD:Fx (K.w::aP p1) s (s1.set K.w (some ⟨false,rM K { v with aG:=v.aG++[x] } (dN 3 (some (b,0)) (v.aG.length+1)) (dN z2 p2 v.aM.length) (dN z3 p3 v.aK.length) (dN z4 p4 v.free.length)⟩)):=
  ⟨fX.1,by grind⟩
 have jb: ∀y,y∈aP p2++(aP p3++aP p4)->y∉K.w::aP p1:=λy hy hm=>by
  rcases eF.1 hm with e|e
  .grind
  .have wO:=jo
   simp only[zA,rR]at wO;grind
 have vk:b≠K.w:=λe=>by have:=(ef.1 h.cell).1;omega
 refine⟨b,s1,_,L',he,λKc=>?_,⟨3,some (b,0),z2,p2,z3,p3,z4,p4,hd,⟨?_,.inl rfl,h.e2,h.e3,h.e4,?_,?_,?_,?_,?_,?_,?_,?_,rfl,Eo⟩⟩,fX,gX⟩
 .rw[qE cG (by show 11<19;omega)]
  rfl
 .rw[kZ (by have:=(ef.1 cG).1;exact this),bB];rfl
 .rw[Iw]
  exact(show bm [] s1 (some (b,0)) (bT v.aG++bT [x])from ho).fx (Fx.set s1 K.w _) (λy hy=>by
   rw[cB.1 hy,cB];exact vk)
 .exact h.o2.fx fD λy hy=>jb y (by simp[hy])
 .exact h.o3.fx fD λy hy=>jb y (by simp[hy])
 .exact h.o4.fx fD λy hy=>jb y (by simp[hy])
 .exact h.aM.fx fX gX
 .exact h.set.fx fD (λhm=>by
   grind) (λhm=>by
   grind)
 .exact Sl.fx h.img fX h.off
 .exact h.off.new h.img gX
def oR (sup:cy) (x:bw):Bool:=(bif decide (x.gen>=1)then decide (x.gen<=sup.g)else false)&&(bif (bif x.live then true else decide (x.gen<sup.g))then true else x.block==0)
def og (x:bw):Bool:=(x.live==false)&&((x.gen==0)&&((x.block==0)&&true))
def pS (K:bL) (k:Int) (x:bw) (v:aS):Option aS:=
 bif decide (k>=K.sup.used)then(bif og x then some v else none)
 else(bif oR K.sup x then some { v with aG:=v.aG++[x] } else none)
def nn (K:bL):Int->List bw->aS->Option aS
 |_,[],v=>some v
 |k,x::r,v=>match pS K k x v with
  |none=>none
  |some v'=>nn K (k+1) r v'
def na (K:bL) (k slot:Int) (v:aS):Option aS:=match dO K k v with
 |some (.leaf x,v')=>nn K slot x v'
 |_=>none
variable {v v':aS} {K:bL}
theorem ZsG {x:bw} (h:pS K k x v=some v'):v'.aG.length<=v.aG.length+1:=by
 grind[pS]
theorem Zpb {K:bL} : ∀ {x:List bw} {k:Int} {v v':aS},nn K k x v=some v'->v'.aG.length<=v.aG.length+x.length
 |[],_,_,_,h=>by cases h;simp
 |x::r,k,v,v',h=>by
  unfold nn at h;cases h1:pS K k x v with
  |none=>rw[h1]at h;cases h
  |some w=>
   rw[h1]at h;have:=ZsG h1;have:=Zpb h;simp;omega
structure Dq (K:bL):Prop where
 m:K.sup.blocks=(K.m:Int)
 Ge:K.m*64<=K.img.length
 len:K.img.length<1000000
theorem eD.wk (h:eD K s v L z1 p1 z2 p2 z3 p3 z4 p4 hd):Wk K s v L:=⟨_,_,_,_,_,_,_,_,_,h⟩
theorem Zy4 {Bd:Zh} (h:HA Bd) (n:Nat) (hK:Dq K) (k slot:Int) (Kq:0<=slot) (eX:slot<=100000) (hW:Wk K s v L) (hl:v.aG.length<100000) (hn:180<=n):
  Ok (rZ K s L (na K k slot v) []) (run Bd n 229 [.p (some (K.w,0)),.i k,.i slot] s):=by
 obtain⟨n,rfl⟩: ∃k,n=k+2:=⟨n-2,by omega⟩;rw[Ze,h.afa];unfold Qw F5 uC Q_ cN Zm C_ aA ix Li rX Lb na;simp only[eH,av,aq,Za];have⟨z1,p1,z2,p2,z3,p3,z4,p4,hd,hW⟩:=hW;refine Ok.wv (hW.take h (n+1) k hK.m hK.Ge hK.len (by omega)) ?_ ?_
 .intro s' hp
  cases ht:dO K k v with
  |none=>rw[ht]at hp;cases hp;exact⟨s,rfl,.refl L s⟩
  |some q=>rw[ht]at hp;grind
 intro ds s1 hp;cases ht:dO K k v with
 |none=>rw[ht]at hp;cases hp
 |some q=>
  have⟨b,v1⟩:=q;rw[ht]at hp;have⟨d,s2,e,iN,cM,hb⟩:=hp;cases e;have yF:v1.aG=v.aG:=by
   unfold dO at ht;grind
  have p7:Fx L s s1:=cM.mono λy hy=>by rw[cB.1 hy];exact hW.w5
  rw[Dh,aq];cases b with
  |node x=>obtain⟨p,rfl,_⟩:=hb;exact .mk ⟨s1,rfl,p7⟩
  |cc x=>obtain⟨rfl,_⟩:=hb;exact .mk ⟨s1,rfl,p7⟩
  |queue x=>obtain⟨rfl,_⟩:=hb;exact .mk ⟨s1,rfl,p7⟩
  |dir x=>obtain⟨p,rfl,_⟩:=hb;exact .mk ⟨s1,rfl,p7⟩
  |none=>cases hb;exact .mk ⟨s1,rfl,p7⟩
  |leaf x=>
   obtain⟨rfl,hx⟩:=hb;have hlen:(bT x).length=21:=by rw[ZB,hx]
   show Ok (rZ K s L (nn K slot x v1) []) (bA (bT x) 21 _ _);have⟨R,hR⟩: ∃R,nn K slot x v1=R:=⟨_,rfl⟩;rw[hR];rw[bI hlen,show(bT x).take 21=bT x from dG (by omega)];refine Zi _ (λq y t=>∃(i:Nat) (u:aS) (Lu:al),y=[.i i]/\i<=7/\7-i<=q/\Wk K t u Lu/\Fx L s t/\Nw L s Lu/\u.aG.length<=v.aG.length+i/\nn K (slot+i) (x.drop i) u=R) ?_ 7 (n+1) _ _ ⟨0,v1,L,rfl,by omega,by omega,iN.wk,p7,.refl L s,by rw[yF];omega,by simp[hR]⟩ (by omega);rintro q _ t ⟨i,u,Lu,rfl,hi,hq,dZ,fK,jY,AM,aQ⟩ rec aN;rw[av,aq];by_cases aw:i<7
   .rw[ax (show(i:Int)<7 by omega),ae,Zb (show aR (i:Int) 7=true from Zj aw),bp]
    have mZ:x[i]? =some (x[i]'(by omega)):=by grind
    rw[MC mZ];have fW:x.drop i=(x[i]'(by omega))::x.drop (i+1):=iV (by omega);rw[fW]at aQ;generalize x[i]'(by omega)=e at aQ;have⟨z1,p1,z2,p2,z3,p3,z4,p4,hd,dZ⟩:=dZ;rw[bI (cs:=eL e) (n:=3) rfl,bd,Zo dZ.cell rfl];rw[bg];have cG:ar (slot+(i:Int))=slot+i:=Zc;have fR:ar ((i:Int)+1)=((i+1:Nat):Int):=Zc;rw[cG,fR];unfold nn pS at aQ;have tW:slot+((i+1:Nat):Int)=slot+i+1:=by omega
    cases hk:decide (slot+(i:Int)>=K.sup.used)with
    |true=>
     rw[hk,ae]at aQ;rw[ae];show Ok _ (cQ (run Bd (n+1) 225 [.b (og e)]) _ t);cases h0:og e with
     |true=>
      rw[h0]at aQ;rw[tx h n rfl];rw[aq];exact aN (7-(i+1)) _ _ (by omega) ⟨i+1,u,Lu,rfl,by omega,aO _,dZ.wk,fK,jY,by omega,by rw[tW];exact aQ⟩
     |false=>
      rw[h0]at aQ;rw[oN h n rfl];simp only[af]at aQ;rw[<-aQ];exact .mk ⟨t,rfl,fK⟩
    |false=>
     rw[hk,af]at aQ;rw[af];have oq:rM K u (dN z1 p1 u.aG.length) (dN z2 p2 u.aM.length) (dN z3 p3 u.aK.length) (dN z4 p4 u.free.length)=rM K u (dN z1 p1 u.aG.length) (dN z2 p2 u.aM.length) (dN z3 p3 u.aK.length) (dN z4 p4 u.free.length):=rfl;clear oq;have nz:Ok (rZ K s L R []) (cQ (run Bd (n+1) 225 [.b (oR K.sup e)]) (λds=>aL ds<|bH (some (K.w,0)) λi1 o1=>bD i1 (o1+11) λd3=>dr 3 d3 λx4 dC=>bA (eL e) 3<|cd (eL e) λi2=>bS i2 0 3 λbM=>cm 3 x4 dC bM 1 2932031007402 λp=>bH (some (K.w,0)) λi3 o2=>dI i3 (o2+11) [.s 3 p (dC+1)]<|rec [.i ((i+1:Nat):Int)]) t):=by
      cases h0:oR K.sup e with
      |true=>
       rw[h0]at aQ;rw[tx h n rfl];simp only[aq,bd];rw[Zo dZ.cell rfl];show Ok _ (dr 3 (.s z1 p1 u.aG.length) _ t);rw[Z3 3 z1 p1 _ dZ.e1,bI (cs:=eL e) (n:=3) rfl];have⟨b,t1,t2,L2,g1,g2,g3,g4,g5⟩:=dZ.ajy (β:=ah) e (by omega);rw[g1,eO,g2];exact aN (7-(i+1)) _ _ (by omega) ⟨i+1,_,L2,rfl,by omega,aO _,g3,fK.step g4 jY,jY.trans fK.1 g5,by simp;omega,by rw[tW];exact aQ⟩
      |false=>
       rw[h0]at aQ;rw[oN h n rfl];simp only[af]at aQ;rw[<-aQ];exact .mk ⟨t,rfl,fK⟩
     unfold oR at nz;rw[gZ (i:=1) (d:= .i e.gen) rfl];rw[bg];have qa: ∀Kc:DV->M ah,bD K.w (0+4) Kc t=Kc (.i K.sup.g) t:=λKc=>Zo dZ.cell rfl Kc
     cases oq:decide (e.gen>=1)with
     |false=>
      simp only[oq,af,gf]at nz;rw[af,au,aq];exact nz
     |true=>
      simp only[oq,ae]at nz;rw[ae,gZ (i:=1) (d:= .i e.gen) rfl];simp only[bg,bd];rw[qa];simp only[bg,au,aq];cases p8:decide (e.gen<=K.sup.g)with
      |false=>
       simp only[p8,gf]at nz;rw[af];exact nz
      |true=>
       simp only[p8,dF]at nz;rw[ae,gZ (i:=0) (d:= .b e.live) rfl];rw[tq];cases eN:e.live with
       |true=>
        simp only[eN,ae]at nz;rw[ae];rw[ae];exact nz
       |false=>
        simp only[eN,af]at nz;rw[af,gZ (i:=1) (d:= .i e.gen) rfl];rw[bg];rw[qa];rw[bg];cases JL:decide (e.gen<K.sup.g)with
        |true=>
         simp only[JL,ae]at nz;rw[ae];exact nz
        |false=>
         simp only[JL,af]at nz;rw[af,gZ (i:=2) (d:= .i e.block) rfl];rw[bg];exact nz
   .rw[aF (show ¬(i:Int)<7 by omega),af]
    rw[lW (by omega)]at aQ;rw[Zd];rw[<-aQ];exact .mk ⟨t,Lu,rfl,dZ,fK,jY⟩
theorem Znx {x:List bw} (h:ZV l= .leaf x):x.length=7:=by
 unfold ZV at h;split at h
 .cases h
 .split at h
  .rename_i e;cases h;exact Ii e
  grind
theorem Z2 {b:xr} (h:dO K k v=some (b,v')):v'.aG=v.aG/\v'.aM=v.aM/\v'.aK=v.aK/\v'.free=v.free/\v'.nodes=v.nodes/\b=ZV (ZG K.img k.toNat):=by
 grind[dO]
theorem Zq6 (h:na K k slot v=some v'):v'.aG.length<=v.aG.length+7:=by
 unfold na at h;cases ht:dO K k v with
 |none=>rw[ht]at h;cases h
 |some q=>
  have⟨b,v1⟩:=q;rw[ht]at h;have⟨h1,_,_,_,_,h2⟩:=Z2 ht;cases b with
  |leaf x=>
   have:=Zpb h;rw[h1,Znx h2.symm]at this;exact this
  |node x=>cases h
  |cc x=>cases h
  |queue x=>cases h
  |dir x=>cases h
  |none=>cases h
def kD (K:bL) (cJ x5:Int):Int->ak->aS->Option aS
 |_,[],v=>some v
 |k,y::r,v=>bif (!(y==0))==decide (x5*16+k<cJ)then(bif !(y==0)then(match na K y ((x5*16+k)*7) v with
   |none=>none
   |some v'=>kD K cJ x5 (k+1) r v')else kD K cJ x5 (k+1) r v)else none
def nX (K:bL) (cJ:Int):Int->ak->aS->Option aS
 |_,[],v=>some v
 |k,y::r,v=>bif (!(y==0))==decide (k*16<cJ)then(bif y==0 then nX K cJ (k+1) r v else(match dO K y v with
   |some (.cc x,v')=>(match kD K cJ k 0 x v' with
    |none=>none
    |some v''=>nX K cJ (k+1) r v'')
   |_=>none))else none
def oa (K:bL) (v:aS):Option aS:=bif K.sup.used==0 then some v else(match dO K K.sup.cc v with
 |some (.cc x,v')=>nX K (BI K.sup.used) 0 x v'
 |_=>none)
theorem Ur {K:bL} {cJ x5:Int} : ∀ {x:ak} {k:Int} {v v':aS},kD K cJ x5 k x v=some v'->v'.aG.length<=v.aG.length+7*x.length
 |[],_,_,_,h=>by cases h;simp
 |y::r,k,v,v',h=>by
  unfold kD at h;cases h1:((!(y==0))==decide (x5*16+k<cJ))with
  |false=>rw[h1]at h;cases h
  |true=>
   rw[h1,ae]at h;cases h2:(!(y==0))with
   |false=>
    rw[h2,af]at h;have:=Ur h;simp;omega
   |true=>
    rw[h2,ae]at h;cases h3:na K y ((x5*16+k)*7) v with
    |none=>rw[h3]at h;cases h
    |some w=>
     rw[h3]at h;have:=Ur h;have:=Zq6 h3;simp;omega
theorem ZzG {Bd:Zh} (hL:HA Bd) (hM:HA Bd) (n:Nat) (hK:Dq K) (cJ:Int) (i5:Nat) (h5:i5<16) (x:ak) (hx:x.length=16) (hn:181<=n) (s:St) (L:al) (t0:St) (L0:al) (v0:aS)
  (hW:Wk K t0 v0 L0) (hf:Fx L s t0) (gX:Nw L s L0) (hl:v0.aG.length<10000)
  (R:Option aS) (Kn:M ah) (aQ: ∀w,kD K cJ (i5:Int) 0 x v0=some w->∀t Lw,Wk K t w Lw->Fx L s t->Nw L s Lw->Ok (rZ K s L R []) (Kn t)) (cA:kD K cJ (i5:Int) 0 x v0=none->R=none):
  Ok (rZ K s L R []) (cS (λdw st=>
      aD .i64 st λx8 st=>
      aL st<|
      bif decide (x8<16)then
       aC (aR x8 16)<|
      eJ ((ints x).take 16) (x8.toNat*1) λd6=>
      cY .i64 d6 λx9=>
      cQ (run Bd n 225 [.b ((!(x9==0))==(decide (ar ((ar ((i5:Int)*16))+x8)<cJ)))]) λds=>
      aL ds<|
      bif !(x9==0)then
       cQ (run Bd n 229 [.p (some (K.w,0)),.i x9,.i (ar ((ar ((ar ((i5:Int)*16))+x8))*7))]) λds=>
      aL ds<|
      dw [.i (ar (x8+1))]
      else
       dw [.i (ar (x8+1))]
      else
       Kn) n [.i 0] t0):=by
 obtain _|n:=n;omega;rw[show(ints x).take 16=ints x from dG (by simp[ints,hx])];have⟨G,hG⟩: ∃G,kD K cJ (i5:Int) 0 x v0=G:=⟨_,rfl⟩;rw[hG]at aQ cA;refine Zi _ (λq y t=>∃(i:Nat) (u:aS) (Lu:al),y=[.i i]/\i<=16/\16-i<=q/\Wk K t u Lu/\Fx L s t/\Nw L s Lu/\u.aG.length<=v0.aG.length+7*i/\kD K cJ i5 i (x.drop i) u=G) ?_ 16 (n+1) _ _ (by grind) (by omega);rintro q _ t ⟨i,u,Lu,rfl,hi,hq,dZ,fK,jY,AM,ec⟩ rec aN;rw[av,aq];by_cases aw:i<16
 .have fW:x.drop i=(x[i]'(by omega))::x.drop (i+1):=iV (by omega)
  rw[fW]at ec;rw[ax (show(i:Int)<16 by omega),ae,Zb (show aR (i:Int) 16=true from Zj aw),bp,cR,gZ (ZD)];rw[bg];generalize x[i]'(by omega)=y at ec;have cG:ar ((i5:Int)*16)=(i5:Int)*16:=Zc;have fR:ar ((i5:Int)*16+i)=(i5:Int)*16+i:=Zc;have jB:ar (((i5:Int)*16+i)*7)=((i5:Int)*16+i)*7:=Zc;have j5:ar ((i:Int)+1)=((i+1:Nat):Int):=Zc;rw[cG,fR,jB,j5];have tW:((i+1:Nat):Int)=(i:Int)+1:=by omega
  unfold kD at ec;cases h1:((!(y==0))==decide ((i5:Int)*16+i<cJ))with
  |false=>
   rw[h1,af]at ec;rw[oN hM n rfl];rw[cA ec.symm];exact .mk ⟨t,rfl,fK⟩
  |true=>
   rw[h1,ae]at ec;rw[tx hM n rfl];rw[aq];cases h2:(!(y==0))with
   |false=>
    rw[h2,af]at ec;rw[af];exact aN (16-(i+1)) _ _ (by omega) (by grind)
   |true=>
    rw[h2,ae]at ec;rw[ae];refine Ok.wv (Zy4 hL (n+1) hK y (((i5:Int)*16+i)*7) (by omega) (by omega) dZ (by omega) (by omega)) ?_ ?_
    .intro t' hp
     cases h3:na K y (((i5:Int)*16+i)*7) u with
     |some w=>rw[h3]at hp;have⟨_,_,e,_⟩:=hp;cases e
     |none=>
      rw[h3]at hp ec;have⟨t2,e,mW⟩:=hp;cases e;rw[cA ec.symm];exact⟨t',rfl,fK.step mW jY⟩
    .intro ds t' hp
     cases h3:na K y (((i5:Int)*16+i)*7) u with
     |none=>rw[h3]at hp;have⟨_,e,_⟩:=hp;cases e
     |some w=>
      rw[h3]at hp ec;have⟨t2,L2,e,mj,mW,wO⟩:=hp;cases e;rw[aq];have gp:=Zq6 h3;exact aN (16-(i+1)) _ _ (by omega) ⟨i+1,w,L2,rfl,by omega,aO _,mj,fK.step mW jY,jY.trans fK.1 wO,by omega,by rw[tW];exact ec⟩
 .rw[aF (show ¬(i:Int)<16 by omega),af]
  rw[lW (by omega)]at ec;exact aQ u ec.symm t Lu dZ fK jY
theorem ZxY (n:Nat) (hK:Dq K) (hW:Wk K s v L) (hl:v.aG.length<1000) (hn:190<=n):
  Ok (rZ K s L (oa K v) []) (run Bd n 226 [.p (some (K.w,0))] s):=by
 obtain⟨n,rfl⟩: ∃k,n=k+2:=⟨n-2,by omega⟩;rw[Ze,h.ae7];unfold QD jh Zm cw uC Q_ cN C_ Li ix Lb oa;simp only[eH,aq,Za,bd];have⟨z1,p1,z2,p2,z3,p3,z4,p4,hd,hW⟩:=hW;rw[Zo hW.cell rfl];rw[bg];cases hu:(K.sup.used==0)with
 |true=>
  rw[ae,ae,Zd];exact .mk ⟨s,L,rfl,hW.wk,.refl L s,.refl L s⟩
 |false=>
  rw[af,af,Zo hW.cell rfl];rw[bg];have jm:=ZpP (n-1) K.sup.used s;rw[show n-1+2=n+1 by omega]at jm;rw[Zk jm];rw[av,aq];rw[Zo hW.cell rfl];rw[bg];generalize BI K.sup.used=cJ;refine Ok.wv (hW.take h (n+1) K.sup.cc hK.m hK.Ge hK.len (by omega)) ?_ ?_
  .intro s' hp
   cases ht:dO K K.sup.cc v with
   |none=>rw[ht]at hp;cases hp;exact⟨s,rfl,.refl L s⟩
   |some q=>rw[ht]at hp;grind
  intro ds s1 hp;cases ht:dO K K.sup.cc v with
  |none=>rw[ht]at hp;cases hp
  |some q=>
   have⟨b,v1⟩:=q;rw[ht]at hp;have⟨d,s2,e,iN,cM,hb⟩:=hp;cases e;have yF:=(Z2 ht).1;have p7:Fx L s s1:=cM.mono λy hy=>by rw[cB.1 hy];exact hW.w5
   rw[Dh,aq];cases b with
   |node x=>obtain⟨p,rfl,_⟩:=hb;exact .mk ⟨s1,rfl,p7⟩
   |leaf x=>obtain⟨rfl,_⟩:=hb;exact .mk ⟨s1,rfl,p7⟩
   |queue x=>obtain⟨rfl,_⟩:=hb;exact .mk ⟨s1,rfl,p7⟩
   |dir x=>obtain⟨p,rfl,_⟩:=hb;exact .mk ⟨s1,rfl,p7⟩
   |none=>cases hb;exact .mk ⟨s1,rfl,p7⟩
   |cc x=>
    obtain⟨rfl,hx⟩:=hb;have hlen:(ints x).length=16:=by simp[ints,hx]
    show Ok (rZ K s L (nX K cJ 0 x v1) []) (bA (ints x) 16 _ _);have⟨R,hR⟩: ∃R,nX K cJ 0 x v1=R:=⟨_,rfl⟩;rw[hR,bI hlen,show(ints x).take 16=ints x from dG (by omega)];refine Zi _ (λq y t=>∃(i:Nat) (u:aS) (Lu:al),y=[.i i]/\i<=16/\16-i<=q/\Wk K t u Lu/\Fx L s t/\Nw L s Lu/\u.aG.length<=v.aG.length+112*i/\nX K cJ i (x.drop i) u=R) ?_ 16 (n+1) _ _ ⟨0,v1,L,rfl,by omega,by omega,iN.wk,p7,.refl L s,by rw[yF];omega,by simpa using hR⟩ (by omega);rintro q _ t ⟨i,u,Lu,rfl,hi,hq,dZ,fK,jY,AM,aQ⟩ rec aN;rw[av,aq];by_cases aw:i<16
    .have fW:x.drop i=(x[i]'(by omega))::x.drop (i+1):=iV (by omega)
     rw[fW]at aQ;rw[ax (show(i:Int)<16 by omega),ae,Zb (show aR (i:Int) 16=true from Zj aw),bp,cR,gZ (ZD)];rw[bg];generalize x[i]'(by omega)=y at aQ;have cG:ar ((i:Int)*16)=(i:Int)*16:=Zc;have j5:ar ((i:Int)+1)=((i+1:Nat):Int):=Zc;have tW:((i+1:Nat):Int)=(i:Int)+1:=by omega
     rw[show decide (ar ((i:Int)*16)<cJ)=decide ((i:Int)*16<cJ) by rw[cG]];unfold nX at aQ;cases h1:((!(y==0))==decide ((i:Int)*16<cJ))with
     |false=>
      rw[h1,af]at aQ;rw[oN h n rfl,<-aQ];exact .mk ⟨t,rfl,fK⟩
     |true=>
      rw[h1,ae]at aQ;rw[tx h n rfl];rw[aq];cases h2:(y==0)with
      |true=>
       rw[h2,ae]at aQ;rw[ae,j5];exact aN (16-(i+1)) _ _ (by omega) (by grind)
      |false=>
       rw[h2,af]at aQ;rw[af];have⟨z1,p1,z2,p2,z3,p3,z4,p4,hd,dZ⟩:=dZ;refine Ok.wv (dZ.take h (n+1) y hK.m hK.Ge hK.len (by omega)) ?_ ?_
       .intro s' hp
        cases ht:dO K y u with
        |none=>rw[ht]at hp aQ;cases hp;rw[<-aQ];exact⟨t,rfl,fK⟩
        |some q=>rw[ht]at hp;grind
       intro ds t1 hp;cases ht:dO K y u with
       |none=>rw[ht]at hp;cases hp
       |some q=>
        have⟨b,u1⟩:=q;rw[ht]at hp aQ;have⟨d,s2,e,mj,fX,hb⟩:=hp;cases e;have vD:=(Z2 ht).1;have sJ:Fx L s t1:=fK.step (fX.mono (T':=Lu) λy hy=>by rw[cB.1 hy];exact dZ.w5) jY;rw[Dh,aq];cases b with
        |node x=>obtain⟨p,rfl,_⟩:=hb;rw[<-aQ];exact .mk ⟨t1,rfl,sJ⟩
        |leaf x=>obtain⟨rfl,_⟩:=hb;rw[<-aQ];exact .mk ⟨t1,rfl,sJ⟩
        |queue x=>obtain⟨rfl,_⟩:=hb;rw[<-aQ];exact .mk ⟨t1,rfl,sJ⟩
        |dir x=>obtain⟨p,rfl,_⟩:=hb;rw[<-aQ];exact .mk ⟨t1,rfl,sJ⟩
        |none=>cases hb;rw[<-aQ];exact .mk ⟨t1,rfl,sJ⟩
        |cc x2=>
         obtain⟨rfl,ED⟩:=hb;have GV:(ints x2).length=16:=by simp[ints,ED]
         show Ok _ (bA (ints x2) 16 _ _);rw[bI GV];refine ZzG h h (n+1) hK cJ i aw x2 ED (by omega) s L t1 Lu u1 mj.wk sJ jY (by rw[vD];omega) R (rec [.i (ar ((i:Int)+1))]) ?_ ?_
         .intro w hw t2 Lw hWw On gX
          have gp:=Ur hw;simp only at aQ;rw[hw]at aQ;rw[j5];refine aN (16-(i+1)) _ _ (by omega) ⟨i+1,w,Lw,rfl,by omega,aO _,hWw,On,gX,?_,by rw[tW];exact aQ⟩;rw[vD]at gp;omega
         grind
    .rw[aF (show ¬(i:Int)<16 by omega),af]
     rw[lW (by omega)]at aQ;rw[Zd,<-aQ];exact .mk ⟨t,Lu,rfl,dZ,fK,jY⟩
theorem UJ {B:al} (h:(A++(B++C)).Nodup): ∀y∈A++C,y∉B:=by
 rw[rR,rR]at h;grind
theorem eD.ajv (h:eD K s v L z1 p1 z2 p2 z3 p3 z4 p4 hd) (x:Int) (hl:v.free.length<1000000):
  ∃b s1 s2 L',(∀Kc:ai->M β,(cd [DV.i x] λi=>bS i 0 1 λcs'=>cm 1 p4 v.free.length cs' 1 8796093022208 Kc) s=Kc (some (b,0)) s1)/\
   (∀Kc:M β,dI K.w 17 [.s 1 (some (b,0)) (v.free.length+1)] Kc s1=Kc s2)/\eD K s2 { v with free:=v.free++[x] } L' z1 p1 z2 p2 z3 p3 1 (some (b,0)) (hd)/\Fx L s s2/\Nw L s L'/\Fx (K.w::aP p4) s s2:=by
 have⟨b,s1,hb,ho,cM,he⟩:=zX (β:=β) (lim:=8796093022208) h.o4 (sz:=1) (n:=v.free.length) [DV.i x] (by omega) (by simp[ints]) rfl;have dM:=h.ne;have cG:=cM.2 K.w _ (by grind) h.cell;have D6: ∀x∈aP p4,x∈L:=λx hx=>by rw[h.own];simp[hx]
 let L':=K.w::K.i::K.j::(aP p1++(aP p2++(aP p3++aP (some (b,0)))))
 let S':=s1.set K.w (some ⟨false,rM K { v with free:=v.free++[x] } (dN z1 p1 v.aG.length) (dN z2 p2 v.aM.length) (dN z3 p3 v.aK.length) (dN 1 (some (b,0)) (v.free.length+1))⟩)
 have fX:Fx L s S':=
  (cM.mono D6).trans ((Fx.set s1 K.w _).mono λy hy=>by rw[cB.1 hy];exact h.EM)
 have jo:((K.w::K.i::K.j::(aP p1++(aP p2++aP p3)))++(aP p4++([]:al))).Nodup:=by
  have:=h.nodup;rw[h.own]at this;grind
 have JZ: ∀y∈(K.w::K.i::K.j::(aP p1++(aP p2++aP p3)))++(aP p4++([]:al)),y<s.length:=λy hy=>h.lt y (by
  rw[h.own];grind)
 have Eo:L'.Nodup:=by
  have:=Mp jo JZ hb;show(K.w::K.i::K.j::(aP p1++(aP p2++(aP p3++aP (some (b,0)))))).Nodup;simpa only[fI,nQ,jH,gz,aP]using this
 have gX:Nw L s L':=λy hy=>by
  have EF:y∈K.w::K.i::K.j::(aP p1++(aP p2++(aP p3++aP (some (b,0))))):=hy;rw[h.own];by_cases e:y=b
  .exact .inr (by omega)
  .refine .inl ?_
   simp only[eF,gx,aP,List.mem_nil_iff,oH]at EF⊢;grind
 have fD:Fx (K.w::aP p4) s S':=
  ⟨fX.1,λy c hy hc=>by
   simp only[eF,not_or]at hy;show(s1.set K.w _)[y]? =_;rw[jv (by omega)];exact cM.2 y c hy.2 hc⟩
 have J1:=UJ jo;have jb: ∀y,y∈aP p1++(aP p2++aP p3)->y∉K.w::aP p4:=λy hy hm=>by
  rcases eF.1 hm with e|e
  .grind
  .exact J1 y (by grind) e
 have vk:b≠K.w:=λe=>by have:=(ef.1 h.cell).1;omega
 refine⟨b,s1,S',L',he,λKc=>?_,⟨?_,h.e1,h.e2,h.e3,.inl rfl,?_,?_,?_,?_,?_,?_,?_,?_,rfl,Eo⟩,fX,gX,fD⟩
 .rw[qE cG (by show 17<19;omega)]
  rfl
 .show(s1.set K.w _)[K.w]? =_
  rw[kZ (by have:=(ef.1 cG).1;exact this),bB];rfl
 .exact h.o1.fx fD λy hy=>jb y (by simp[hy])
 .exact h.o2.fx fD λy hy=>jb y (by simp[hy])
 .exact h.o3.fx fD λy hy=>jb y (by simp[hy])
 .rw[show ints (v.free++[x])=ints v.free++[.i x] by unfold ints;rw[fq];rfl]
  exact(show bm [] s1 (some (b,0)) _ from ho).fx (Fx.set s1 K.w _) (λy hy=>by
   rw[cB.1 hy,cB];exact vk)
 .exact h.aM.fx fX gX
 .exact h.set.fx fD (λhm=>by
   grind) (λhm=>by
   grind)
 .exact Sl.fx h.img fX h.off
 .exact h.off.new h.img gX
theorem eD.ajw (h:eD K s v L z1 p1 z2 p2 z3 p3 z4 p4 hd) (x:Int) (hl:v.aK.length<1000000):
  ∃b s1 s2 L',(∀Kc:ai->M β,(cd [DV.i x] λi=>bS i 0 1 λcs'=>cm 1 p3 v.aK.length cs' 1 8796093022208 Kc) s=Kc (some (b,0)) s1)/\
   (∀Kc:M β,dI K.w 16 [.s 1 (some (b,0)) (v.aK.length+1)] Kc s1=Kc s2)/\eD K s2 { v with aK:=v.aK++[x] } L' z1 p1 z2 p2 1 (some (b,0)) z4 p4 (hd)/\Fx L s s2/\Nw L s L'/\Fx (K.w::aP p3) s s2:=by
 have⟨b,s1,hb,ho,cM,he⟩:=zX (β:=β) (lim:=8796093022208) h.o3 (sz:=1) (n:=v.aK.length) [DV.i x] (by omega) (by simp[ints]) rfl;have dM:=h.ne;have cG:=cM.2 K.w _ (by grind) h.cell;have D6: ∀x∈aP p3,x∈L:=λx hx=>by rw[h.own];simp[hx]
 let L':=K.w::K.i::K.j::(aP p1++(aP p2++(aP (some (b,0))++aP p4)))
 let S':=s1.set K.w (some ⟨false,rM K { v with aK:=v.aK++[x] } (dN z1 p1 v.aG.length) (dN z2 p2 v.aM.length) (dN 1 (some (b,0)) (v.aK.length+1)) (dN z4 p4 v.free.length)⟩)
 have fX:Fx L s S':=
  (cM.mono D6).trans ((Fx.set s1 K.w _).mono λy hy=>by rw[cB.1 hy];exact h.EM)
 have jo:((K.w::K.i::K.j::(aP p1++aP p2))++(aP p3++aP p4)).Nodup:=by
  have:=h.nodup;rw[h.own]at this;grind
 have JZ: ∀y∈(K.w::K.i::K.j::(aP p1++aP p2))++(aP p3++aP p4),y<s.length:=λy hy=>h.lt y (by
  rw[h.own];grind)
 have Eo:L'.Nodup:=by
  have:=Mp jo JZ hb;show(K.w::K.i::K.j::(aP p1++(aP p2++(aP (some (b,0))++aP p4)))).Nodup;simpa only[fI,nQ,jH,gz,aP]using this
 have gX:Nw L s L':=λy hy=>by
  have EF:y∈K.w::K.i::K.j::(aP p1++(aP p2++(aP (some (b,0))++aP p4))):=hy;rw[h.own];by_cases e:y=b
  .exact .inr (by omega)
  .refine .inl ?_
   simp only[eF,gx,aP,List.mem_nil_iff,oH]at EF⊢;grind
 have fD:Fx (K.w::aP p3) s S':=
  ⟨fX.1,λy c hy hc=>by
   simp only[eF,not_or]at hy;show(s1.set K.w _)[y]? =_;rw[jv (by omega)];exact cM.2 y c hy.2 hc⟩
 have J1:=UJ jo;have jb: ∀y,y∈aP p1++(aP p2++aP p4)->y∉K.w::aP p3:=λy hy hm=>by
  rcases eF.1 hm with e|e
  .grind
  .exact J1 y (by simp only[gx,eF]at hy⊢;rcases hy with e|e|e<;>simp[e]) e
 have vk:b≠K.w:=λe=>by have:=(ef.1 h.cell).1;omega
 refine⟨b,s1,S',L',he,λKc=>?_,⟨?_,h.e1,h.e2,.inl rfl,h.e4,?_,?_,?_,?_,?_,?_,?_,?_,rfl,Eo⟩,fX,gX,fD⟩
 .rw[qE cG (by show 16<19;omega)]
  rfl
 .show(s1.set K.w _)[K.w]? =_
  rw[kZ (by have:=(ef.1 cG).1;exact this),bB];rfl
 .exact h.o1.fx fD λy hy=>jb y (by simp[hy])
 .exact h.o2.fx fD λy hy=>jb y (by simp[hy])
 .rw[show ints (v.aK++[x])=ints v.aK++[.i x] by unfold ints;rw[fq];rfl]
  exact(show bm [] s1 (some (b,0)) _ from ho).fx (Fx.set s1 K.w _) (λy hy=>by
   rw[cB.1 hy,cB];exact vk)
 .exact h.o4.fx fD λy hy=>jb y (by simp[hy])
 .exact h.aM.fx fX gX
 .exact h.set.fx fD (λhm=>by
   rcases eF.1 hm with e|e
   .exact dM.1 e.symm
   .exact(dM.2.2.2 K.i (by rw[gx];grind)).2.1 rfl) (λhm=>by
   rcases eF.1 hm with e|e
   .exact dM.2.1 e.symm
   .exact(dM.2.2.2 K.j (by rw[gx];grind)).2.2 rfl)
 .exact Sl.fx h.img fX h.off
 .exact h.off.new h.img gX
theorem eD.ajx (h:eD K s v L z1 p1 z2 p2 z3 p3 z4 p4 hd) (x:dP) (hl:v.aM.length<1000000) {p:ai} (hz:z=4\/p=none) (hs:Sl s p (bY x.cj)) (OS:lI L p):
  ∃b s1 s2 L',(∀Kc:ai->M β,(cd (ml x z p) λi=>bS i 0 2 λcs'=>cm 2 p2 v.aM.length cs' 1 1759218604441 Kc) s=Kc (some (b,0)) s1)/\
   (∀Kc:M β,dI K.w 15 [.s 2 (some (b,0)) (v.aM.length+1)] Kc s1=Kc s2)/\eD K s2 { v with aM:=v.aM++[x] } L' z1 p1 2 (some (b,0)) z3 p3 z4 p4 (hd++ml x z p)/\Fx L s s2/\Nw L s L'/\Fx (K.w::aP p2) s s2:=by
 have⟨b,s1,hb,ho,cM,he⟩:=zX (β:=β) (lim:=1759218604441) h.o2 (sz:=2) (n:=v.aM.length) (ml x z p) (by omega) h.aM.aM.len rfl;have dM:=h.ne;have cG:=cM.2 K.w _ (by grind) h.cell;have D6: ∀x∈aP p2,x∈L:=λx hx=>by rw[h.own];simp[hx]
 let L':=K.w::K.i::K.j::(aP p1++(aP (some (b,0))++(aP p3++aP p4)))
 let S':=s1.set K.w (some ⟨false,rM K { v with aM:=v.aM++[x] } (dN z1 p1 v.aG.length) (dN 2 (some (b,0)) (v.aM.length+1)) (dN z3 p3 v.aK.length) (dN z4 p4 v.free.length)⟩)
 have fX:Fx L s S':=
  (cM.mono D6).trans ((Fx.set s1 K.w _).mono λy hy=>by rw[cB.1 hy];exact h.EM)
 have jo:((K.w::K.i::K.j::aP p1)++(aP p2++(aP p3++aP p4))).Nodup:=by
  have:=h.nodup;rw[h.own]at this;grind
 have JZ: ∀y∈(K.w::K.i::K.j::aP p1)++(aP p2++(aP p3++aP p4)),y<s.length:=λy hy=>h.lt y (by
  rw[h.own];grind)
 have Eo:L'.Nodup:=by
  have:=Mp jo JZ hb;show(K.w::K.i::K.j::(aP p1++(aP (some (b,0))++(aP p3++aP p4)))).Nodup;simpa only[fI,nQ,jH,gz,aP]using this
 have gX:Nw L s L':=λy hy=>by
  have EF:y∈K.w::K.i::K.j::(aP p1++(aP (some (b,0))++(aP p3++aP p4))):=hy;rw[h.own];by_cases e:y=b
  .exact .inr (by omega)
  .refine .inl ?_
   simp only[eF,gx,aP,List.mem_nil_iff,oH]at EF⊢;grind
 have fD:Fx (K.w::aP p2) s S':=
  ⟨fX.1,λy c hy hc=>by
   simp only[eF,not_or]at hy;show(s1.set K.w _)[y]? =_;rw[jv (by omega)];exact cM.2 y c hy.2 hc⟩
 have J1:=UJ jo;have jb: ∀y,y∈aP p1++(aP p3++aP p4)->y∉K.w::aP p2:=λy hy hm=>by
  rcases eF.1 hm with e|e
  .grind
  .exact J1 y (by simp only[gx,eF]at hy⊢;rcases hy with e|e|e<;>simp[e]) e
 have vk:b≠K.w:=λe=>by have:=(ef.1 h.cell).1;omega
 refine⟨b,s1,S',L',he,λKc=>?_,⟨?_,h.e1,.inl rfl,h.e3,h.e4,?_,?_,?_,?_,?_,?_,?_,?_,rfl,Eo⟩,fX,gX,fD⟩
 .rw[qE cG (by show 15<19;omega)]
  rfl
 .show(s1.set K.w _)[K.w]? =_
  rw[kZ (by have:=(ef.1 cG).1;exact this),bB];rfl
 .exact h.o1.fx fD λy hy=>jb y (by simp[hy])
 .skip
  exact(show bm [] s1 (some (b,0)) _ from ho).fx (Fx.set s1 K.w _) (λy hy=>by
   rw[cB.1 hy,cB];exact vk)
 .exact h.o3.fx fD λy hy=>jb y (by simp[hy])
 .exact h.o4.fx fD λy hy=>jb y (by simp[hy])
 .exact(h.aM.fx fX gX).push hz (hs.fx fX OS) (OS.new hs gX)
 .exact h.set.fx fD (λhm=>by
   grind) (λhm=>by
   grind)
 .exact Sl.fx h.img fX h.off
 .exact h.off.new h.img gX
def tD (K:bL) (v:aS) (k:Int):Prop:=(v.aG.length:Int)=(if k<=K.sup.used then k else K.sup.used)/\∀x∈v.aG,ZK x=true
theorem Zum {x:bw} (hx:ZK x=true) (_h0:0<=K.sup.used) (h:pS K k x v=some v') (ha:tD K v k):tD K v' (k+1):=by
 unfold pS at h;by_cases hk:k>=K.sup.used
 .rw[ax hk,ae]at h
  cases h2:og x with
  |false=>rw[h2]at h;cases h
  |true=>
   rw[h2]at h;cases h;refine⟨?_,ha.2⟩;rw[ha.1];split<;>split<;>omega
 .rw[aF hk,af]at h
  cases h2:oR K.sup x with
  |false=>rw[h2]at h;cases h
  |true=>
   rw[h2]at h;cases h;refine⟨?_,λy hy=>?_⟩
   .have:=ha.1
    rw[bE (by omega)]at this;rw[bE (by omega)];simp;omega
   .rcases gx.1 hy with h|h
    .exact ha.2 y h
    grind
theorem ZqL {K:bL} (h0:0<=K.sup.used): ∀ {x:List bw} {k:Int} {v v':aS},(∀y∈x,ZK y=true)->nn K k x v=some v'->tD K v k->tD K v' (k+x.length)
 |[],k,_,_,_,h,ha=>by cases h;simpa using ha
 |y::r,k,v,v',hr,h,ha=>by
  unfold nn at h;cases h1:pS K k y v with
  |none=>rw[h1]at h;cases h
  |some w=>
   rw[h1]at h;have:=ZqL h0 (by grind) h (Zum (hr y (by simp)) h0 h1 ha);rwa [show k+((y::r).length:Int)=k+1+r.length by simp;omega]
theorem Zr6 {x:List bw} (h:ZL l=some x): ∀y∈x,ZK y=true:=by
 grind[ZL]
theorem Zth {x:List bw} (h:ZV l= .leaf x): ∀y∈x,ZK y=true:=by
 unfold ZV at h;split at h
 .cases h
 .split at h
  .rename_i e;cases h;exact Zr6 e
  grind
theorem ZxG (h0:0<=K.sup.used) (h:na K k slot v=some v') (ha:tD K v slot):tD K v' (slot+7):=by
 unfold na at h;cases ht:dO K k v with
 |none=>rw[ht]at h;cases h
 |some q=>
  have⟨b,v1⟩:=q;rw[ht]at h;have⟨h1,_,_,_,_,h2⟩:=Z2 ht;cases b with
  |leaf x=>
   have:=ZqL h0 (Zth h2.symm) h (by grind[tD]);rwa [Znx h2.symm]at this
  |node x=>cases h
  |cc x=>cases h
  |queue x=>cases h
  |dir x=>cases h
  |none=>cases h
theorem UR {K:bL} (h0:0<=K.sup.used) {cJ x5:Int} (hc:K.sup.used<=cJ*7): ∀ {x:ak} {k:Int} {v v':aS},kD K cJ x5 k x v=some v'->tD K v ((x5*16+k)*7)->tD K v' ((x5*16+k+x.length)*7)
 |[],_,_,_,h,ha=>by cases h;simpa using ha
 |y::r,k,v,v',h,ha=>by
  unfold kD at h;have e:(x5*16+k+((y::r).length:Int))*7=(x5*16+(k+1)+r.length)*7:=by simp;omega
  rw[e];cases h1:((!(y==0))==decide (x5*16+k<cJ))with
  |false=>rw[h1]at h;cases h
  |true=>
   rw[h1,ae]at h;cases h2:(!(y==0))with
   |false=>
    rw[h2]at h h1;have hk: ¬(x5*16+k<cJ):=by
     grind
    refine UR h0 hc h ⟨?_,ha.2⟩;rw[ha.1];split<;>split<;>omega
   |true=>
    rw[h2,ae]at h;cases h3:na K y ((x5*16+k)*7) v with
    |none=>rw[h3]at h;cases h
    |some w=>
     rw[h3]at h;have:=ZxG h0 h3 ha;rw[show(x5*16+k)*7+7=(x5*16+(k+1))*7 by omega]at this;exact UR h0 hc h this
theorem Uq {x:ak} (h:iM l=some x):x.length=16:=by
 unfold iM at h;split at h
 .cases h
 .rename_i k t b _
  cases e:(decide (k=3)&&(decide (t=0)&&ZE (b.drop 32)))with
  |false=>rw[e]at h;cases h
  |true=>
   rw[e]at h;cases e2:BF (dU b 16)with
   |false=>rw[e2]at h;cases h
   |true=>rw[e2]at h;cases h;exact nW b 16
theorem Zpl {x:ak} (h:ZV l= .cc x):x.length=16:=by
 unfold ZV at h;split at h
 .cases h
 .split at h
  .cases h
  .split at h
   .rename_i e;cases h;exact Uq e
   grind
theorem UF {K:bL} (h0:0<=K.sup.used) {cJ:Int} (hc:K.sup.used<=cJ*7): ∀ {x:ak} {k:Int} {v v':aS},nX K cJ k x v=some v'->tD K v (k*112)->tD K v' ((k+x.length)*112)
 |[],_,_,_,h,ha=>by cases h;simpa using ha
 |y::r,k,v,v',h,ha=>by
  unfold nX at h;have e:(k+((y::r).length:Int))*112=(k+1+r.length)*112:=by simp;omega
  rw[e];cases h1:((!(y==0))==decide (k*16<cJ))with
  |false=>rw[h1]at h;cases h
  |true=>
   rw[h1,ae]at h;cases h2:(y==0)with
   |true=>
    rw[h2]at h h1;have hk: ¬(k*16<cJ):=by
     grind
    refine UF h0 hc h ⟨?_,ha.2⟩;rw[ha.1];split<;>split<;>omega
   |false=>
    rw[h2,af]at h;cases ht:dO K y v with
    |none=>rw[ht]at h;cases h
    |some q=>
     have⟨b,v1⟩:=q;rw[ht]at h;have⟨g1,_,_,_,_,g2⟩:=Z2 ht;cases b with
     |leaf x=>cases h
     |node x=>cases h
     |queue x=>cases h
     |dir x=>cases h
     |none=>cases h
     |cc x2=>
      simp only at h;cases h3:kD K cJ k 0 x2 v1 with
      |none=>rw[h3]at h;cases h
      |some w=>
       rw[h3]at h;have hb:=Zpl g2.symm;have:=UR h0 hc h3 (by grind[tD]);rw[hb,show(k*16+0+((16:Nat):Int))*7=(k+1)*112 by omega]at this;exact UF h0 hc h this
theorem ZvL (h0:0<=u) (h1:u<=1792):u<=BI u*7:=by
 unfold BI rK;rw[ax (show u>=0 from h0),ax h1,vQ,ae,Zc (x:=u+7),Zc (x:=u+7-1)];obtain⟨k,rfl⟩: ∃k:Nat,u=k:=⟨u.toNat,by omega⟩;rw[show((k:Int)+7-1)=((k+6:Nat):Int) by omega,show(((k+6:Nat):Int).tdiv 7)=(((k+6)/7:Nat):Int)from rfl,Zc];omega
theorem ZqR (h0:0<=K.sup.used) (h1:K.sup.used<=1792) (hv:v.aG=[]) (h:oa K v=some v'):(v'.aG.length:Int)=K.sup.used/\∀x∈v'.aG,ZK x=true:=by
 unfold oa at h;cases hu:(K.sup.used==0)with
 |true=>
  rw[hu]at h;grind
 |false=>
  rw[hu,af]at h;cases ht:dO K K.sup.cc v with
  |none=>rw[ht]at h;cases h
  |some q=>
   have⟨b,v1⟩:=q;rw[ht]at h;have⟨g1,_,_,_,_,g2⟩:=Z2 ht;cases b with
   |leaf x=>cases h
   |node x=>cases h
   |queue x=>cases h
   |dir x=>cases h
   |none=>cases h
   |cc x=>
    have:=UF h0 (ZvL h0 h1) h (by grind[tD]);rw[Zpl g2.symm]at this;have h2:=this.1;refine⟨?_,this.2⟩;rw[h2];split<;>omega
def nk (K:bL):Nat->List Bool->Int->aS->Option (List Bool×aS)
 |0,_,_,_=>none
 |f+1,fl,next,v=>bif next==0 then some (fl,v)else(bif decide (next<=K.sup.used)then
   (match v.aG[(next-1).toNat]? with
   |none=>none
   |some x=>bif (bif (bif !x.live then decide (x.gen<K.sup.g)else false)then !fl.getD (next-1).toNat false else false)then nk K f (fl.set (next-1).toNat true) x.block { v with free:=v.free++[next-1] } else none)
  else none)
def DO (K:bL) (b:Bool) (x:bw):Bool:=bif (bif x.live then true else x.gen==K.sup.g)then true else b
def qR (K:bL):List Bool->List bw->Bool
 |_,[]=>true
 |fl,x::r=>DO K (fl.getD 0 false) x&&qR K (fl.drop 1) r
def BO (K:bL):Option (List Bool×aS)->Option aS
 |none=>none
 |some (fl,v)=>bif qR K fl v.aG then some v else none
def sE (K:bL) (v:aS):Option aS:=BO K (nk K (K.sup.used.toNat+1) (List.replicate K.sup.used.toNat false) K.sup.free v)
theorem ZwA: ∀ {l:List Bool} {k:Nat},l.getD k true=false->(l.set k true).count false+1=l.count false
 |[],k,h=>by simp at h
 |b::l,0,h=>by
  grind
 |b::l,k+1,h=>by
  grind
theorem bm.cH {a:ai} (h:bm [] s a cs) (hn:0<cs.length): ∃b,a=some (b,0)/\s[b]? =some (some ⟨false,cs⟩):=by
 rcases h.2 with⟨_,rfl⟩|⟨i,rfl,_,h3⟩
 .cases hn
 grind
theorem Ml {b:Nat} {l:List bw} {x:bw} {k:Nat} (h:s[b]? =some (some ⟨false,bT l⟩)) (hx:l[k]? =some x) (Kc:ah->M β):bS b (k*3+0) 3 Kc s=Kc (eL x) s:=by
 have hk:k<l.length:=by grind
 rw[gV,Z8 h (by rw[ZB];omega),MC hx]
theorem Zy7 {Bd:Zh} (hM:HA Bd) (n:Nat) (i1:Nat) (fl:List Bool) (s0:St) (L0:al) (R:Option aS) (hW:Wk K s v L) (hf:s[i1]? =some (some ⟨false,fl.map .bool⟩)) (hl:fl.length=v.aG.length) (hlen:v.aG.length<2000) (cM:Fx L0 s0 s) (gX:Nw L0 s0 L) (hR:BO K (some (fl,v))=R) (X:Nat) (hX:X=v.aG.length) (hn:2010<=n):
  Ok (rZ K s0 L0 R []) ((bH (some (K.w,0)) λi3 o2=>
  bD i3 (o2+11) λd2=>
  dr 3 d2 λx2 cW=>
  cK (λst=>
   aL st<|
   ay []) λaI=>
  cS (λaV st=>
   aD .i64 st λx3 st=>
   aL st<|
   bif decide (x3<(cW:Int))then
    bH x2 λi4 o3=>
    aC (aR x3 cW)<|
    bS i4 (x3.toNat*3+o3) 3 λcs=>
    gC cs λx4 r=>
    aD .i64 r λx5 r=>
    aD .i64 r λ_x6 r=>
    aL r<|
    cK (λst=>gC st λb1 st=>aL st<|
     cK (λst=>gC st λb2 st=>aL st<|
      cQ (run Bd n 225 [.b b2]) λds=>
      aL ds<|
      aV [.i (ar (x3+1))]) λbz=>
     bif b1 then
      bz [.b true]
     else
      aC (aR x3 X)<|
      bD i1 (x3.toNat*1) λd3=>
      tM d3 λx7=>
      bz [.b x7]) λaW=>
    bif x4 then
     aW [.b true]
    else
     bH (some (K.w,0)) λi5 o4=>
     bD i5 (o4+4) λd4=>
     cY .i64 d4 λx8=>
     aW [.b (x5==x8)]
   else
    aI []) n [.i 0]) s):=by
 subst hX;obtain _|n:=n;omega;have⟨z1,p1,z2,p2,z3,p3,z4,p4,hd,hW⟩:=hW;rw[bd,Zo hW.cell rfl];show Ok _ (dr 3 (.s z1 p1 v.aG.length) _ s);rw[Z3 3 z1 p1 _ hW.e1];simp only[Za];refine Zi _ (λq y t=>∃i:Nat,y=[.i i]/\i<=v.aG.length/\v.aG.length-i<=q/\t=s/\(bif qR K (fl.drop i) (v.aG.drop i)then some v else none)=R) ?_ v.aG.length (n+1) _ _ ⟨0,rfl,cz _,by omega,rfl,hR⟩ (by omega);rintro q _ t ⟨i,rfl,hi,hq,rfl,aQ⟩ rec aN;simp only[av,aq];by_cases aw:i<v.aG.length
 .obtain⟨b,rfl,hb⟩:=hW.o1.cH (by rw[ZB];omega)
  have mZ:v.aG[i]? =some v.aG[i]:=cq aw;have fW:v.aG.drop i=v.aG[i]::v.aG.drop (i+1):=iV aw;have GM:fl[i]? =some (fl[i]'(by omega)):=by grind
  rw[ax (show(i:Int)<(v.aG.length:Int) by omega),ae,bd,Zb (Zj aw),bp,Ml hb mZ];rw[fW]at aQ;unfold qR at aQ;rw[kW,show(fl.drop i).getD 0 false=fl[i]'(by omega) by rw[dW,Bg,gV,GM];rfl]at aQ;generalize v.aG[i]=x at aQ;unfold eL;simp only[au,av,aq,bd];have j5:ar ((i:Int)+1)=((i+1:Nat):Int):=Zc;rw[j5];have nz:Ok (rZ K s0 L0 R []) (cQ (run Bd (n+1) 225 [.b (DO K (fl[i]'(by omega)) x)]) (λds=>aL ds<|rec [.i ((i+1:Nat):Int)]) t):=by
   cases h0:DO K (fl[i]'(by omega)) x with
   |true=>
    rw[h0,dF]at aQ;rw[tx hM n rfl];rw[aq];exact aN (v.aG.length-(i+1)) _ _ (by omega) (by grind)
   |false=>
    rw[h0,gf,af]at aQ;rw[oN hM n rfl,<-aQ];exact .mk ⟨t,rfl,cM⟩
  unfold DO at nz;have GX: ∀Kc:DV->M ah,bD i1 (i*1) Kc t=Kc (.b (fl[i]'(by omega))) t:=λKc=>Zo hf (by rw[cR,rQ,GM];rfl) Kc
  have qa: ∀Kc:DV->M ah,bD K.w (0+4) Kc t=Kc (.i K.sup.g) t:=λKc=>Zo hW.cell rfl Kc
  cases eN:x.live with
  |true=>
   grind
  |false=>
   simp only[eN,af]at nz;rw[af,qa];rw[bg];cases hg:(x.gen==K.sup.g)with
   |true=>
    grind
   |false=>
    simp only[hg,af]at nz;rw[af,Zb (Zj aw),GX];rw[tq];exact nz
 .rw[aF (show ¬(i:Int)<(v.aG.length:Int) by omega),af]
  rw[Zd];rw[lW (as:=v.aG) (by omega)]at aQ;have AD:some v=R:=aQ;rw[<-AD];exact .mk ⟨t,L,rfl,hW.wk,cM,gX⟩
theorem ZzU (n:Nat) (hW:Wk K s v L) (h0:0<=K.sup.used) (h1:K.sup.used<=1792) (vo:0<=K.sup.free) (hs:(v.aG.length:Int)=K.sup.used) (hr: ∀x∈v.aG,ZK x=true) (hh:v.aM=[]) (dS:v.free=[]) (hn:2100<=n):
  Ok (rZ K s L (sE K v) []) (run Bd n 230 [.p (some (K.w,0))] s):=by
 obtain⟨n,rfl⟩: ∃k,n=k+2:=⟨n-2,by omega⟩;rw[Ze,h.afb];unfold Qv jh Zm Q_ cN N_ qJ aA C_ qK Lb Li aZ sE
 try dsimp only
 rw[eH,aq];rw[bd];have⟨z1,p1,z2,p2,z3,p3,z4,p4,hd,hW⟩:=hW;rw[Zo hW.cell rfl];rw[bg];rw[Zb (by rw[aY,aY,br,br,br];omega),Zz,DK];have ou:=aB.new s (some (⟨false,List.replicate K.sup.used.toNat (.b false)⟩:bO));have abB:(s++[some (⟨false,List.replicate K.sup.used.toNat (.b false)⟩:bO)])[s.length]? =some (some ⟨false,(List.replicate K.sup.used.toNat false).map .bool⟩):=by simp
 have sI:=hW.pre ou;have abu:=sI.cell;generalize s++[some (⟨false,List.replicate K.sup.used.toNat (.b false)⟩:bO)]=s0 at ou abB sI abu;rw[bd,Zo abu rfl];rw[bg];rw[Za];have⟨R,hR⟩: ∃R,BO K (nk K (K.sup.used.toNat+1) (List.replicate K.sup.used.toNat false) K.sup.free v)=R:=⟨_,rfl⟩;rw[hR];have hX:K.sup.used.toNat=v.aG.length:=by omega
 have JN:s.length∉L:=λhm=>by have:=hW.lt _ hm;omega
 refine Zi _ (λq y t=>∃(f:Nat) (fl:List Bool) (next:Int) (u:aS) (Lu:al),y=[.i next]/\0<=next/\fl.length=v.aG.length/\fl.count false<=q/\fl.count false<f/\Wk K t u Lu/\u.aG=v.aG/\u.aM=[]/\u.free.length+fl.count false<=v.aG.length/\t[s.length]? =some (some ⟨false,fl.map .bool⟩)/\s.length∉Lu/\Fx L s t/\Nw L s Lu/\BO K (nk K f fl next u)=R) ?_ v.aG.length (n+1) _ _ ⟨K.sup.used.toNat+1,_,K.sup.free,v,L,rfl,vo,by simp[hX],by simp[hX],by simp,sI.wk,rfl,hh,by simp[dS,hX],abB,JN,Fx.pre L ou,.refl L s,hR⟩ (by omega);rintro q _ t ⟨f,fl,next,u,Lu,rfl,G0,ep,hcq,yr,dZ,jc,uk,huf,wL,hiL,cM,gX,aQ⟩ rec aN;rw[av,aq];obtain⟨f,rfl⟩: ∃k,f=k+1:=⟨f-1,by omega⟩;unfold nk at aQ;cases hz:(next==0)with
 |true=>
  rw[hz,ae]at aQ;rw[bu,af];exact Zy7 h (n+1) s.length fl s L R dZ wL (by rw[jc];exact ep) (by rw[jc];omega) cM gX aQ K.sup.used.toNat (by rw[jc];exact hX) (by omega)
 |false=>
  rw[hz,af]at aQ;rw[bn,ae];have Em:next≠0:=by grind
  have⟨z1,p1,z2,p2,z3,p3,z4,p4,hd,dZ⟩:=dZ;rw[bd,Zo dZ.cell rfl];rw[bg];cases hle:decide (next<=K.sup.used)with
  |false=>
   rw[hle,af]at aQ;rw[oN h n rfl];have AD:none=R:=aQ;rw[<-AD];exact .mk ⟨t,rfl,cM⟩
  |true=>
   have akq:=mK hle;rw[hle,ae]at aQ;rw[tx h n rfl];rw[aq];have⟨k,hk⟩: ∃k:Nat,next-1=k:=⟨(next-1).toNat,by omega⟩;have fY:k<u.aG.length:=by rw[jc];omega
   have cG:ar (next-1)=(k:Int):=by rw[Zc,hk]
   rw[hk,bp]at aQ;rw[cG,bp];rw[bd,Zo dZ.cell rfl];show Ok _ (dr 3 (.s z1 p1 u.aG.length) _ t);rw[Z3 3 z1 p1 _ dZ.e1];obtain⟨b,rfl,hb⟩:=dZ.o1.cH (by rw[ZB];omega);have mZ:u.aG[k]? =some u.aG[k]:=cq fY;have vB:=hr u.aG[k] (by rw[<-jc];grind);rw[bd,Zb (Zj fY),Ml hb mZ];rw[mZ]at aQ;simp only at aQ;generalize u.aG[k]=x at aQ vB;unfold eL;simp only[au,av,aq,Za,bd];have Xr:fl[k]? =some (fl[k]'(by omega)):=by grind
   rw[show fl.getD k false=fl[k]'(by omega) by rw[dW,Xr];rfl]at aQ;have qa: ∀Kc:DV->M ah,bD K.w (0+4) Kc t=Kc (.i K.sup.g) t:=λKc=>Zo dZ.cell rfl Kc
   have GX: ∀Kc:DV->M ah,bD s.length (k*1) Kc t=Kc (.b (fl[k]'(by omega))) t:=λKc=>Zo wL (by rw[cR,rQ,Xr];rfl) Kc
   cases eN:x.live with
   |true=>
    simp only[eN,bu,af]at aQ;rw[bu,af];rw[af];rw[oN h n rfl];have AD:none=R:=aQ;rw[<-AD];exact .mk ⟨t,rfl,cM⟩
   |false=>
    simp only[eN,bn,ae]at aQ;rw[bn,ae,qa];rw[bg];cases hg:decide (x.gen<K.sup.g)with
    |false=>
     simp only[hg,af]at aQ;rw[af];rw[oN h n rfl];have AD:none=R:=aQ;rw[<-AD];exact .mk ⟨t,rfl,cM⟩
    |true=>
     simp only[hg,ae]at aQ;rw[ae];rw[hX,<-jc,Zb (Zj fY),GX];rw[tq];cases Xs:fl[k]'(by omega)with
     |true=>
      simp only[Xs,bu,af]at aQ;rw[bu,oN h n rfl];have AD:none=R:=aQ;rw[<-AD];exact .mk ⟨t,rfl,cM⟩
     |false=>
      simp only[Xs,bn,ae]at aQ;rw[bn,tx h n rfl];rw[aq];rw[Zb (Zj fY),qE wL (by simp;omega)];have dh:(fl.map DV.b).set (k*1) (.b true)=(fl.set k true).map DV.bool:=by rw[cR,List.map_set]
      rw[dh];have Xv:=Fx.set t s.length (some (⟨false,(fl.set k true).map DV.bool⟩:bO));have ahX:lI [s.length] K.a:=λb o e hm=>by
       have aw:=Sl.lt (e▸hW.img);rw[cB.1 hm]at aw;omega
      have Oc:=dZ.j6 Xv (by grind) ahX (by
       have:=dZ.aM;rw[uk]at this⊢;exact this)
      have abD:(t.set s.length (some (⟨false,(fl.set k true).map DV.bool⟩:bO)))[s.length]? =some (some ⟨false,(fl.set k true).map .bool⟩):=by grind
      have Xw:Fx L s (t.set s.length (some (⟨false,(fl.set k true).map DV.bool⟩:bO))):=cM.step Xv λy hy=> .inr (by rw[cB.1 hy];exact aO _)
      generalize t.set s.length (some (⟨false,(fl.set k true).map DV.bool⟩:bO))=t1 at Xv Oc abD Xw;rw[Zo Oc.cell rfl];show Ok _ (dr 1 (.s z4 p4 u.free.length) _ t1);rw[Z3 1 z4 p4 _ Oc.e4];have mV:=ZwA (l:=fl) (k:=k) (by rw[dW,Xr,Xs];rfl);have⟨b2,t2,t3,L3,g1,g2,g3,g4,g5,g6⟩:=Oc.ajv (β:=ah) (k:Int) (by omega);have akF:s.length<t1.length:=by grind
      refine Eq.mpr (congrArg (Ok _) (g1 _)) ?_;refine Eq.mpr (congrArg (Ok _) (g2 _)) ?_;have hblk:0<=x.block:=by
       unfold ZK at vB;rw[eN,af,aY,aY]at vB;have h2:=vB.2.1;unfold ll at h2;by_cases yo:x.block>=0
       .exact yo
       grind
      refine aN ((fl.set k true).count false) _ _ (by omega) ⟨f,fl.set k true,x.block,_,L3,rfl,hblk,by simpa using ep,aO _,by omega,g3.wk,jc,uk,by simp;omega,?_,?_,Xw.step g4 gX,gX.trans Xw.1 g5,aQ⟩
      .refine g4.2 _ _ hiL abD
      .intro hm
       rcases g5 _ hm with e|e
       .exact hiL e
       .omega
def um (v:aS):aS:= { v with aK:=v.aK++v.aG.map (·.gen) }
def yN (v:aS):Nat:=(v.aG.filter (·.live)).length
theorem Zy9 (n:Nat) (hW:Wk K s v L) (hl:v.aG.length<2000) (hg:v.aK.length<100000) (hn:2010<=n):
  Ok (λo=>∃s' L',o=(.val [.i (yN v:Nat)],s')/\Wk K s' (um v) L'/\Fx L s s'/\Nw L s L') (run Bd n 234 [.p (some (K.w,0))] s):=by
 obtain _|n:=n;omega;rw[Ze,h.aff];unfold QF jh oL iX N_ qJ Li aZ gJ;simp only[eH,aq,bd,Za];have⟨z1,p1,z2,p2,z3,p3,z4,p4,hd,hW⟩:=hW;rw[Zo hW.cell rfl];show Ok _ (dr 3 (.s z1 p1 v.aG.length) _ s);rw[Z3 3 z1 p1 _ hW.e1];refine Zi _ (λq y t=>∃(i:Nat) (z3:Nat) (p3:ai) (Lu:al),y=[.i (((v.aG.take i).filter (·.live)).length:Nat),.i i]/\i<=v.aG.length/\v.aG.length-i<=q/\eD K t { v with aK:=v.aK++(v.aG.take i).map (·.gen) } Lu z1 p1 z2 p2 z3 p3 z4 p4 hd/\Fx L s t/\Nw L s Lu) ?_ v.aG.length n _ _ ⟨0,z3,p3,L,rfl,cz _,by omega,by simpa using hW,.refl L s,.refl L s⟩ (by omega);rintro q _ t ⟨i,z3,p3,Lu,rfl,hi,hq,dZ,fK,jY⟩ rec aN;simp only[av,aq];by_cases aw:i<v.aG.length
 .obtain⟨b,rfl,hb⟩:=dZ.o1.cH (by rw[ZB];grind)
  have mZ:v.aG[i]? =some v.aG[i]:=cq aw;have fZ:v.aG.take (i+1)=v.aG.take i++[v.aG[i]]:=lX aw;rw[ax (show(i:Int)<(v.aG.length:Int) by omega),ae,bd,Zb (Zj aw),bp,Ml hb mZ];generalize v.aG[i]=x at fZ;unfold eL;simp only[au,av,aq];rw[Zo dZ.cell rfl];show Ok _ (dr 1 (.s z3 p3 (v.aK++(v.aG.take i).map (·.gen)).length) _ t);rw[Z3 1 z3 p3 _ dZ.e3];have jm:(v.aK++(v.aG.take i).map (·.gen)).length<1000000:=by
   rw[bB,lG,cX];omega
  have⟨b2,t2,t3,L3,g1,g2,g3,g4,g5,g6⟩:=dZ.ajw (β:=ah) x.gen jm;refine Eq.mpr (congrArg (Ok _) (g1 _)) ?_;refine Eq.mpr (congrArg (Ok _) (g2 _)) ?_;have j5:ar ((i:Int)+1)=((i+1:Nat):Int):=Zc;have ep:((v.aG.take i).filter (·.live)).length<=i:=by grind
  have pC:ar (((((v.aG.take i).filter (·.live)).length:Nat):Int)+1)=((((v.aG.take i).filter (·.live)).length+1:Nat):Int):=Zc;rw[j5,pC];have wN:eD K t3 { v with aK:=v.aK++(v.aG.take (i+1)).map (·.gen) } L3 z1 (some (b,0)) z2 p2 1 (some (b2,0)) z4 p4 hd:=by
   rw[fZ,fq,<-fI];exact g3
  cases eN:x.live with
  |true=>
   rw[ae];exact aN (v.aG.length-(i+1)) _ _ (by omega) ⟨i+1,1,some (b2,0),L3,by rw[fZ,E9];simp[eN],by omega,aO _,wN,fK.step g4 jY,jY.trans fK.1 g5⟩
  |false=>
   rw[af];exact aN (v.aG.length-(i+1)) _ _ (by omega) ⟨i+1,1,some (b2,0),L3,by rw[fZ,E9];simp[eN],by omega,aO _,wN,fK.step g4 jY,jY.trans fK.1 g5⟩
 .rw[aF (show ¬(i:Int)<(v.aG.length:Int) by omega),af]
  rw[Zd];rw[dG (by omega)]at dZ⊢;exact .mk ⟨t,Lu,rfl,dZ.wk,fK,jY⟩
end Go.Gv.F
