/- A block of an image, taken once: the walker's first steps. -/
import Derived.Test.YtegglibipjjblaaGreatDoorGvBMk
import Derived.Test.YtegglibipjjblaaGreatDoorGvZMa
namespace Go.Gv.F
open Go.Gv
variable {β:Type}
variable {k slot u:Int} {i j lim m n z:Nat} {s s':St} {α:Type} {cs:ah} {l:aj} {A C L L' L'' T W W':al}
theorem ZwP {m:M α} {K:α->M β} (h:m s=some (.eZ,s')):c9 m K s=some (.eZ,s'):=by unfold c9;rw[h]
theorem Ok.vA {P:Out α×St->Prop} {Q:Out β×St->Prop} {m:M α} {K:α->M β} (h:Ok P (m s))
  (k1: ∀s',P (.eZ,s')->Q (.eZ,s')) (k2: ∀ds s',P (.val ds,s')->Ok Q (K ds s')):Ok Q (c9 m K s):=by
 obtain⟨⟨o,s'⟩,e,hp⟩:=h;unfold c9;rw[e];cases o with
 |val ds=>exact k2 ds s' hp
 |eZ=>exact .mk (k1 s' hp)
theorem Oc (p:ai) (K:ai->M β):CF (.ptr p) K=K p:=rfl
theorem Zw6 (s:St):kB s.length s=s:=by unfold kB;simp
variable {Bd:Zh} [h:HA Bd]
theorem Ztr (n:Nat) (b:Bool) (st:St):run Bd (n+1) 225 [.bool b] st=some (bif b then(.val [],st)else(.eZ,st)):=by
 rw[Ze,h.acv];unfold Rh iy Q_;simp only[au,aq,Za];cases b<;>rfl
theorem sT {Bd:Zh} (h:HA Bd) (n:Nat) {b:Bool} (hb:b=true) (st:St) (K:ah->M β):c9 (run Bd (n+1) 225 [.bool b]) K st=K [] st:=by
 rw[hb];exact Zk (Ztr n true st)
theorem Z7 {Bd:Zh} (h:HA Bd) (n:Nat) {b:Bool} (hb:b=false) (st:St) (K:ah->M β):c9 (run Bd (n+1) 225 [.bool b]) K st=some (.eZ,st):=by
 rw[hb];exact ZwP (Ztr n false st)
def ZB (img:aj) (k:Nat):aj:=(img.drop (k*64)).take 64
theorem ZlL (n:Nat) (a:ai) (len k:Nat) (st:St) (hl:len<1000000) (hk:(k+1)*64<=len:=by omega):
  run Bd (n+1) 203 [.slice 1 a len,.int .i64 k] st=some (.val [.slice 1 (cU true a (k*64)) 64],st):=by
 rw[Ze,h.ab7];unfold Qr rL bD;simp only[bc,av,aq];rw[Z5];have h1:ar ((k:Int)+1)=((k+1:Nat):Int):=Zc;have h2:ar (((k+1:Nat):Int)*64)=(((k+1)*64:Nat):Int):=by rw[Zc];omega
 have h3:ar ((k:Int)*64)=((k*64:Nat):Int):=by rw[Zc];omega
 simp only[h1,h2,h3,bu,cP];rw[Zb (by rw[aR,bq,bq];omega),Zb (by rw[aR,bq,bq];omega),Zs,Zw6,show(k+1)*64-k*64=64 by omega]
inductive BQ where
 |node (x:jo)
 |leaf (x:List bA)
 |cc (x:ak)
 |queue (x:ZC)
 |dir (x:ak)
 |none
def ZX (l:aj):BQ:=
 match iz l with
 |some x=> .node x
 |none=>match ZH l with
  |some x=> .leaf x
  |none=>match Z0 l with
   |some x=> .cc x
   |none=>match ZD l with
    |some x=> .queue x
    |none=>match kD l with
     |some x=> .dir x
     |none=> .none
def Oa (s:St):BQ->DV->Prop
 | .node x,d=>∃p,d= .iface 6 (.agg (nR x 1 p))/\Fz s p (ints x.kids)/\ot x=true/\x.kids.length<=12
 | .leaf x,d=>d= .iface 5 (.agg (bR x))/\x.length=7
 | .cc x,d=>d= .iface 2 (.agg (ints x))/\x.length=16
 | .queue x,d=>d= .iface 4 (.agg (ZW x))/\x.df.length=12
 | .dir x,d=>∃p,d= .iface 3 (.agg [.slice 1 p x.length])/\Fz s p (ints x)/\x.length<=16
 | .none,d=>d= .nilIface
theorem GK {x:List bA} (h:ZH l=some x):x.length=7:=by
 unfold ZH at h;split at h
 .cases h
 .rename_i k t b _
  cases e:(decide (k=2)&&decide (t<128))with
  |false=>rw[e]at h;cases h
  |true=>
   rw[e]at h;cases e2:(ZM b t 7).all ZJ with
   |false=>rw[e2]at h;cases h
   |true=>rw[e2]at h;cases h;exact Aa b t 7
theorem ZqJ (n:Nat) (a:ai) (l:aj) (st:St) (ha:dz st a l) (hl:l.length<1000000) (hn:161<=n):
  Ok (λo=>∃d s',o=(.val [d],s')/\aD st s'/\Oa s' (ZX l) d) (run Bd n 256 [.slice 1 a l.length] st):=by
 obtain⟨n,rfl⟩: ∃m,n=m+1:=⟨n-1,by omega⟩;rw[Ze,h.ac0];unfold QI ck D7 iy bD ZX;simp only[bc,aq];refine Ok.call (ZsZ n a l st ha hl (by omega)) ?_;rintro _ ⟨s1,aG,pS⟩;cases nM:iz l with
 |some x=>
  rw[nM]at pS;obtain⟨p,rfl,hf⟩:=pS;refine⟨_,s1,rfl,?_⟩;unfold nR eR;simp only[nr,gU,cJ,av,bc,au,aq,ae,Zd];exact .mk ⟨_,s1,rfl,aG,p,rfl,hf,(KQ nM).1,(KQ nM).2⟩
 |none=>
 rw[nM]at pS;subst pS;refine⟨_,s1,rfl,?_⟩;simp only[cJ,av,au,aq,Zg 1 0 none _ (.inr rfl),af];have tr:=ha.mono aG;refine Ok.call (Zoe n a l s1 tr hl (by omega)) ?_;rintro _ ⟨s2,aZ,c8⟩;cases pO:ZH l with
 |some x=>
  rw[pO]at c8;subst c8;refine⟨_,s2,rfl,?_⟩;have hlen:(bR x).length=21:=by rw[Zz,GK pO]
  simp only[cJ,au,aq,ae];rw[bF hlen,bF hlen,Zd];exact .mk ⟨_,s2,rfl,aG.trans aZ,rfl,GK pO⟩
 |none=>
 rw[pO]at c8;subst c8;refine⟨_,s2,rfl,?_⟩;simp only[cJ,au,aq,af];rw[bF (cs:=bR nc) (n:=21) rfl,bF (cs:=bR nc) (n:=21) rfl];have Fg:=tr.mono aZ;refine Ok.call (ZoV n a l s2 Fg hl (by omega)) ?_;rintro _ ⟨s3,cq,kd⟩;cases Ia:Z0 l with
 |some x=>
  rw[Ia]at kd;obtain⟨rfl,hx⟩:=kd;refine⟨_,s3,rfl,?_⟩;have hlen:(ints x).length=16:=by simp[ints,hx]
  simp only[cJ,au,aq,ae];rw[bF hlen,bF hlen,Zd];exact .mk ⟨_,s3,rfl,(aG.trans aZ).trans cq,rfl,hx⟩
 |none=>
 rw[Ia]at kd;subst kd;refine⟨_,s3,rfl,?_⟩;simp only[cJ,au,aq,af];rw[bF (cs:=ints (List.replicate 16 0)) (n:=16) rfl,bF (cs:=ints (List.replicate 16 0)) (n:=16) rfl];have ha3:=Fg.mono cq;refine Ok.call (Zmp n a l s3 ha3 hl (by omega)) ?_;rintro _ ⟨s4,fC,nN⟩;cases hg4:ZD l with
 |some x=>
  rw[hg4]at nN;obtain⟨rfl,hx⟩:=nN;refine⟨_,s4,rfl,?_⟩;have hlen:(ints x.df).length=12:=by simp[ints,hx]
  unfold ZW;simp only[cJ,bP,av,au,aq,ae];rw[bF hlen,bF (by simp[hlen]),Zd];exact .mk ⟨_,s4,rfl,((aG.trans aZ).trans cq).trans fC,rfl,hx⟩
 |none=>
 rw[hg4]at nN;subst nN;refine⟨_,s4,rfl,?_⟩;unfold ZW;simp only[cJ,bP,av,au,aq,af];rw[bF (cs:=ints CC.df) (n:=12) rfl,bF (n:=14) rfl];have ha4:=ha3.mono fC;refine Ok.call (Zn4 n a l s4 ha4 hl (by omega)) ?_;rintro _ ⟨s5,ji,nO⟩;cases hg5:kD l with
 |some x=>
  rw[hg5]at nO;obtain⟨p,rfl,hf,hx⟩:=nO;refine⟨_,s5,rfl,?_⟩;simp only[cJ,bc,au,aq,ae,Zd];exact .mk ⟨_,s5,rfl,(((aG.trans aZ).trans cq).trans fC).trans ji,p,rfl,hf,hx⟩
 |none=>
 rw[hg5]at nO;subst nO;refine⟨_,s5,rfl,?_⟩;simp only[cJ,Zg 1 0 none _ (.inr rfl),au,aq,af,Zd];exact .mk ⟨_,s5,rfl,(((aG.trans aZ).trans cq).trans fC).trans ji,rfl⟩
def fu (m:Nat) (W:al) (k:Int):Bool:=decide (k>=2)&&(fR m k&& !dM W k.toNat)
theorem ZxG {Bd:Zh} (h:HA Bd) (n w:Nat) (a:ai) (img:aj) (k:Int) (st:St)
  (hw:st[w]? =some (some ⟨false,cs⟩)) (h0:cs[0]? =some (.slice 1 a img.length)) (h2:cs[2]? =some (.int .i64 m)) (E8:cs[10]? =some (.ptr (some (i,0))))
  (hs:gm st false i j m W) (pQ:i≠j) (hjw:w≠j) (ha:dz st a img) (IC:lI [j] a) (hm:m*64<=img.length) (hl:img.length<1000000) (hn:170<=n):
  Ok (λo=>bif fu m W k then ∃d s',o=(.val [d],s')/\Fx [j] st s'/\gm s' false i j m (bX m W k)/\Oa s' (ZX (ZB img k.toNat)) d else o=(.eZ,st)) (run Bd n 228 [.ptr (some (w,0)),.int .i64 k] st):=by
 obtain⟨n,rfl⟩: ∃k,n=k+4:=⟨n-4,by omega⟩;rw[Ze,h.acy];unfold Ov cA az C_ mc tQ bd Zm Lb Li eW bD nx fu;simp only[gj,av,aq,Za,aX];by_cases iL:k>=2;rotate_left
 .rw[aB iL,af]
  simp only[au,aq,af,eG];rw[Z7 h (n+2) rfl];exact .mk rfl
 rw[aw iL,ae,Zo hw h2];simp only[aY,au,aq,de];have Ym:fR m k=decide (k<(m:Int)):=by unfold fR;rw[aw (show(0:Int)<=k by omega),de]
 rw[Ym];by_cases qL:k<(m:Int);rotate_left
 .rw[aB qL,af]
  simp only[eG,af];rw[Z7 h (n+2) rfl];exact .mk rfl
 rw[aw qL,ae,Zo hw E8];simp only[Oc,de];rw[Zk (Zmz (n+1) k st hs),Ym,aw qL,de];simp only[au,aq];cases fO:dM W k.toNat with
 |true=>
  simp only[bm,af];rw[Z7 h (n+2) rfl];exact .mk rfl
 |false=>
  simp only[bp,ae];rw[sT h (n+2) rfl];simp only[aq];rw[Zo hw E8];simp only[Oc];rw[Zy];have aG:=aD.new st (some (⟨false,[DV.int .i64 k]⟩:bT));have fm:Sl (st++[some (⟨false,[DV.int .i64 k]⟩:bT)]) (some (st.length,0)) (ints [k]):=LL st [DV.int .i64 k];have dG:lI [j] (some (st.length,0)):=by
   intro b o e hb;cases e;have:=(dB.1 hs.wd).1;rw[cj.1 hb]at this;omega
  generalize st++[some (⟨false,[DV.int .i64 k]⟩:bT)]=s1 at aG fm;have lU:=hs.pre aG;have XM:=Ki (n+3) [k] (some (st.length,0)) s1 lU pQ fm dG (by simp) (by simp;omega);rw[show[k].length=1 from rfl]at XM;rw[Zk XM];simp only[aq];have YM:=lU.add pQ (bX m W k) (uj _ _ _) (Tf lU.lt);have cF:Fx [j] st (s1.set j (some ⟨false,ZV (bX m W k)⟩)):=(Fx.pre [j] aG).trans (Fx.set s1 j _);have e1:[k].foldl (bX m) W=bX m W k:=rfl;rw[e1];generalize s1.set j (some ⟨false,ZV (bX m W k)⟩)=s2 at YM cF;have fP:=cF.2 w _ (by simpa using hjw) hw;have Fg:dz s2 a img:=Sl.fx ha cF IC;rw[Zo fP h0];simp only[lG];obtain⟨kk,rfl⟩: ∃kk:Nat,k=kk:=⟨k.toNat,by omega⟩;rw[Zk (ZlL (n+2) a img.length kk s2 hl)];simp only[bc,aq];have C4:dz s2 (cU true a (kk*64)) (ZB img kk):=(Fg.cU (k:=kk*64) (by omega)).lY 64;have MP:(ZB img kk).length=64:=by unfold ZB;rw[cz,dT];omega
  have hb:=ZqJ (n+3) _ (ZB img kk) s2 C4 (by omega) (by omega);rw[MP]at hb;refine Ok.call hb ?_;rintro _ ⟨d,s3,rfl,cq,hblk⟩;refine⟨_,s3,rfl,?_⟩;simp only[BU,aq,Zd];exact .mk ⟨d,s3,rfl,cF.trans (Fx.pre [j] cq),YM.pre cq,hblk⟩
structure eC where
 seq:Int
 blocks:Int
 cO:Int
 g:Int
 cc:Int
 used:Int
 free:Int
 dir:Int
 aO:ak
structure bj where
 W:al
 aK:List bA
 aU:List dr
 aH:ak
 free:ak
 nodes:Int
structure bV where
 w:Nat
 i:Nat
 j:Nat
 m:Nat
 a:ai
 img:aj
 sup:eC
 pc:ai
def dI (z:Nat) (p:ai) (n:Nat):DV:= .slice z p n
def rf (K:bV) (v:bj) (c11 c15 c16 c17:DV):ah:=
 [.slice 1 K.a K.img.length,.int .i64 K.sup.seq,.int .i64 K.sup.blocks,.int .i64 K.sup.cO,.int .i64 K.sup.g,.int .i64 K.sup.cc,.int .i64 K.sup.used,.int .i64 K.sup.free,.int .i64 K.sup.dir,.slice 1 K.pc K.sup.aO.length,
  .ptr (some (K.i,0)),c11,.int .i64 K.sup.blocks,.int .i64 K.sup.cO,.int .i64 K.sup.g,c15,c16,c17,.int .i64 v.nodes]
def aM:ai->al
 |none=>[]
 |some (b,_)=>[b]
theorem lI.aM {L:al} {a:ai} (h: ∀b∈aM a,b∉L):lI L a:=by
 intro b o e;subst e;exact h b (by simp[F.aM])
theorem ba.fx {a:ai} (h:ba [] s a cs) (k:Fx T s s') (n: ∀b∈aM a,b∉T):ba [] s' a cs:=by
 refine⟨⟨s',rfl⟩,?_⟩;rcases h.2 with h1|⟨i,rfl,h2,h3⟩
 .exact .inl h1
 .exact .inr ⟨i,rfl,h2,k.2 i _ (n i (by simp[aM])) h3⟩
theorem ba.EN {a:ai} (h:ba [] s a cs): ∀b∈aM a,b<s.length:=by
 rcases h.2 with⟨rfl,_⟩|⟨i,rfl,_,h3⟩
 .intro b hb;cases hb
 .intro b hb;rw[cj.1 hb];exact(dB.1 h3).1
theorem yw {a:ai} (h:ba [] s a cs) {sz:Nat} (ds:ah) (hz:0<sz) (hn:cs.length=n*sz) (hd:ds.length=sz) (hl:n+1<=lim:=by omega):
  ∃b s',s.length<=b/\ba [] s' (some (b,0)) (cs++ds)/\Fx (aM a) s s'/\∀K:ai->M β,(cg ds λi=>bS i 0 sz λcs'=>cm sz a n cs' 1 lim K) s=K (some (b,0)) s':=by
 obtain⟨b,s',h1,h2,_,h4,h5⟩:=h.aak (β:=β) ds hz hn hd hl;refine⟨b,s',h1,h2,⟨?_,λi x hi e=>h4 i x e ?_⟩,h5⟩
 .have:=ba.EN h2 b (by simp[aM]);omega
 .rintro o rfl
  exact hi (by simp[aM])
def qd (s:St) (L:al):ah->List dr->Prop
 |ds,[]=>ds=[]
 |ds,x::r=>∃z p t,(z=4\/p=none)/\ds=jw x z p++t/\Sl s p (bM x.bW)/\lI L p/\qd s L t r
theorem qd.fx {s s':St} {L L':al} (k:Fx L s s') (hL: ∀x∈L',x∈L\/s.length<=x): ∀ {ds:ah} {xs:List dr},qd s L ds xs->qd s' L' ds xs
 |_,[],h=>h
 |_,_::_,⟨z,p,t,hz,h1,h2,h3,h4⟩=>⟨z,p,t,hz,h1,h2.fx k h3,h3.new h2 hL,h4.fx k hL⟩
theorem qd.aU {s:St} {L:al} : ∀ {ds:ah} {xs:List dr},qd s L ds xs->je s ds xs
 |_,[],h=>h
 |_,_::_,⟨z,p,t,hz,h1,h2,_,h4⟩=>⟨z,p,t,hz,h1,h2,h4.aU⟩
theorem qd.push {s:St} {L:al} {x:dr} {z:Nat} {p:ai} (hz:z=4\/p=none) (hs:Sl s p (bM x.bW)) (ho:lI L p): ∀ {ds:ah} {xs:List dr},qd s L ds xs->qd s L (ds++jw x z p) (xs++[x])
 |ds,[],h=>⟨z,p,[],hz,by rw[show ds=[]from h];rfl,hs,ho,rfl⟩
 |_,_::_,⟨z',p',t,FT,h1,h2,h3,h4⟩=>⟨z',p',t++jw x z p,FT,by rw[h1,fD],h2,h3,h4.push hz hs ho⟩
structure ec (K:bV) (s:St) (v:bj) (L:List Nat) (z1:Nat) (p1:Option (Nat×Nat)) (z2:Nat) (p2:Option (Nat×Nat)) (z3:Nat) (p3:Option (Nat×Nat)) (z4:Nat) (p4:Option (Nat×Nat)) (hd:List DV):Prop where
 cell:s[K.w]? =some (some ⟨false,rf K v (dI z1 p1 v.aK.length) (dI z2 p2 v.aU.length) (dI z3 p3 v.aH.length) (dI z4 p4 v.free.length)⟩)
 e1:z1=3\/p1=none
 e2:z2=2\/p2=none
 e3:z3=1\/p3=none
 e4:z4=1\/p4=none
 o1:ba [] s p1 (bR v.aK)
 o2:ba [] s p2 hd
 o3:ba [] s p3 (ints v.aH)
 o4:ba [] s p4 (ints v.free)
 aU:qd s L hd v.aU
 set:gm s false K.i K.j K.m v.W
 img:dz s K.a K.img
 off:lI L K.a
 own:L=K.w::K.i::K.j::(aM p1++(aM p2++(aM p3++aM p4)))
 nodup:L.Nodup
def Wk (K:bV) (s:St) (v:bj) (L:al):Prop:=∃z1 p1 z2 p2 z3 p3 z4 p4 hd,ec K s v L z1 p1 z2 p2 z3 p3 z4 p4 hd
def Nw (L:al) (s:St) (L':al):Prop:=∀x∈L',x∈L\/s.length<=x
theorem Nw.refl (L:al) (s:St):Nw L s L:=λ_ h=> .inl h
theorem Nw.trans (h:Nw L s L') (hs:s.length<=s'.length) (k:Nw L' s' L''):Nw L s L'':=λx hx=>by
 rcases k x hx with h1|h1
 .exact h x h1
 .exact .inr (by omega)
theorem KB {B:al} {b:Nat} (h:(A++(B++C)).Nodup) (hl: ∀x∈A++(B++C),x<n) (hb:n<=b):(A++([b]++C)).Nodup:=by
 rw[vi]at h⊢;obtain⟨h1,h2,h3⟩:=h;rw[vi]at h2;obtain⟨_,h4,_⟩:=h2;refine⟨h1,?_,?_⟩
 .rw[List.singleton_append,yk]
  refine⟨λhm=>?_,h4⟩;have:=hl b (by simp[hm]);omega
 .intro x hx y hy
  rcases fE.1 hy with hy|hy
  .rw[cj.1 hy]
   have:=hl x (by simp[hx]);omega
  .exact h3 x hx y (fE.2 (.inr hy))
variable {K:bV} {s:St} {v:bj} {L:al} {z1 z2 z3 z4:Nat} {p1 p2 p3 p4:ai} {hd:ah}
theorem ec.lt (h:ec K s v L z1 p1 z2 p2 z3 p3 z4 p4 hd): ∀x∈L,x<s.length:=by
 intro x hx;rw[h.own]at hx;simp only[dC,fE]at hx;rcases hx with rfl|rfl|rfl|hx|hx|hx|hx
 .exact(dB.1 h.cell).1
 .exact(dB.1 h.set.hd).1
 .exact(dB.1 h.set.wd).1
 .exact ba.EN h.o1 x hx
 .exact ba.EN h.o2 x hx
 .exact ba.EN h.o3 x hx
 .exact ba.EN h.o4 x hx
theorem ec.Ds (h:ec K s v L z1 p1 z2 p2 z3 p3 z4 p4 hd):K.w∈L:=by rw[h.own];simp
theorem ec.wc (h:ec K s v L z1 p1 z2 p2 z3 p3 z4 p4 hd):K.j∈L:=by rw[h.own];simp
theorem ec.ne (h:ec K s v L z1 p1 z2 p2 z3 p3 z4 p4 hd):K.w≠K.i/\K.w≠K.j/\K.i≠K.j/\(∀x∈aM p1++(aM p2++(aM p3++aM p4)),x≠K.w/\x≠K.i/\x≠K.j):=by
 have hn:=h.nodup;rw[h.own]at hn;simp only[yk,dC,not_or]at hn;obtain⟨⟨a1,a2,a3⟩,⟨b1,b2⟩,c1,_⟩:=hn;exact⟨a1,a2,b1,λx hx=>⟨λe=>a3 (e▸hx),λe=>b2 (e▸hx),λe=>c1 (e▸hx)⟩⟩
theorem ec.jB (h:ec K s v L z1 p1 z2 p2 z3 p3 z4 p4 hd) (k:Fx T s s') (hT: ∀x∈T,x∉L) (ha:lI T K.a) (hh:qd s' L hd v.aU):ec K s' v L z1 p1 z2 p2 z3 p3 z4 p4 hd:=by
 have hm: ∀x∈L,x∉T:=λx hx hx'=>hT x hx' hx
 have ho:=h.own;refine⟨k.2 _ _ (hm _ h.Ds) h.cell,h.e1,h.e2,h.e3,h.e4,h.o1.fx k λb hb=>hm b ?_,h.o2.fx k λb hb=>hm b ?_,h.o3.fx k λb hb=>hm b ?_,h.o4.fx k λb hb=>hm b ?_,hh,h.set.fx k (hm _ (by rw[ho];simp)) (hm _ h.wc),Sl.fx h.img k ha,h.off,ho,h.nodup⟩
 all_goals rw[ho];simp[hb]
theorem ec.pre {s':St} (h:ec K s v L z1 p1 z2 p2 z3 p3 z4 p4 hd) (k:aD s s'):ec K s' v L z1 p1 z2 p2 z3 p3 z4 p4 hd:=
 h.jB (Fx.pre [] k) (λ_ h=>by cases h) (λ_ _ _ h=>by cases h) (h.aU.fx (Fx.pre L k) (Nw.refl L s))
theorem ec.agv (h:ec K s v L z1 p1 z2 p2 z3 p3 z4 p4 hd) (k:Fx [K.j] s s') (hs:gm s' false K.i K.j K.m W'):ec K s' { v with W:=W' } L z1 p1 z2 p2 z3 p3 z4 p4 hd:=by
 have du:=h.ne;refine⟨k.2 _ _ (by simpa using du.2.1) h.cell,h.e1,h.e2,h.e3,h.e4,h.o1.fx k λb hb=>?_,h.o2.fx k λb hb=>?_,h.o3.fx k λb hb=>?_,h.o4.fx k λb hb=>?_,h.aU.fx (k.mono λx hx=>by rw[cj.1 hx];exact h.wc) (Nw.refl L s),hs,Sl.fx h.img k λb o e hb=>h.off b o e (by rw[cj.1 hb];exact h.wc),h.off,h.own,h.nodup⟩
 all_goals simpa using (du.2.2.2 b (by simp[hb])).2.2
def dN (K:bV) (k:Int) (v:bj):Option (BQ×bj):=bif fu K.m v.W k then some (ZX (ZB K.img k.toNat), { v with W:=bX K.m v.W k })else none
theorem ec.take {Bd:Zh} (hB:HA Bd) (n:Nat) (k:Int) (hm:K.sup.blocks=(K.m:Int)) (hi:K.m*64<=K.img.length) (hl:K.img.length<1000000) (hn:170<=n) (h:ec K s v L z1 p1 z2 p2 z3 p3 z4 p4 hd):
  Ok (λo=>match dN K k v with
   |none=>o=(.eZ,s)
   |some (b,v')=>∃d s',o=(.val [d],s')/\ec K s' v' L z1 p1 z2 p2 z3 p3 z4 p4 hd/\Fx [K.j] s s'/\Oa s' b d) (run Bd n 228 [.ptr (some (K.w,0)),.int .i64 k] s):=by
 have du:=h.ne;refine(ZxG hB n K.w K.a K.img k s h.cell rfl (by rw[<-hm];rfl) rfl h.set du.2.2.1 du.2.1 h.img (λb o e hb=>h.off b o e (by rw[cj.1 hb];exact h.wc)) hi hl hn).mono ?_;intro o ho;unfold dN;cases hf:fu K.m v.W k with
 |false=>rw[hf]at ho;exact ho
 |true=>
  rw[hf]at ho;obtain⟨d,s',rfl,cF,hs,hb⟩:=ho;exact⟨d,s',rfl,h.agv cF hs,cF,hb⟩
theorem K6: ∀ {l:List bA} {j:Nat} {x:bA},l[j]? =some x->((bR l).drop (j*3)).take 3=ez x
 |[],j,e,h=>by simp at h
 |x::l,0,e,h=>by
  simp only[lB,fU]at h;subst h;rfl
 |x::l,j+1,e,h=>by
  have e2:bR (x::l)=ez x++bR l:=rfl;rw[e2,show(j+1)*3=(ez x).length+j*3 by show _=3+_;omega,<-jX,BI];exact K6 (by simpa using h)
def rD (K:bV) (s:St) (L:al) (r:Option bj) (ds:ah) (o:Out ah×St):Prop:=match r with
 |none=>∃s',o=(.eZ,s')/\Fx L s s'
 |some v=>∃s' L',o=(.val ds,s')/\Wk K s' v L'/\Fx L s s'/\Nw L s L'
theorem ec.agr (h:ec K s v L z1 p1 z2 p2 z3 p3 z4 p4 hd) (x:bA) (hl:v.aK.length<1000000):
  ∃b s1 s2 L',(∀Kc:ai->M β,(cg (ez x) λi=>bS i 0 3 λcs'=>cm 3 p1 v.aK.length cs' 1 2932031007402 Kc) s=Kc (some (b,0)) s1)/\
   (∀Kc:M β,ee K.w 11 [.slice 3 (some (b,0)) (v.aK.length+1)] Kc s1=Kc s2)/\Wk K s2 { v with aK:=v.aK++[x] } L'/\Fx L s s2/\Nw L s L':=by
 obtain⟨b,s1,hb,ho,cF,he⟩:=yw (β:=β) (lim:=2932031007402) h.o1 (sz:=3) (n:=v.aK.length) (ez x) (by omega) (Zz _) rfl;have du:=h.ne;have cG:=cF.2 K.w _ (by grind) h.cell;have CM: ∀x∈aM p1,x∈L:=λx hx=>by rw[h.own];simp[hx]
 let L':=K.w::K.i::K.j::(aM (some (b,0))++(aM p2++(aM p3++aM p4)))
 have fI:Fx L s (s1.set K.w (some ⟨false,rf K { v with aK:=v.aK++[x] } (dI 3 (some (b,0)) (v.aK.length+1)) (dI z2 p2 v.aU.length) (dI z3 p3 v.aH.length) (dI z4 p4 v.free.length)⟩)):=
  (cF.mono CM).trans ((Fx.set s1 K.w _).mono λy hy=>by rw[cj.1 hy];exact h.Ds)
 have jz:=h.nodup;rw[h.own]at jz;have C8:(K.w::K.i::K.j::(aM (some (b,0))++(aM p2++(aM p3++aM p4)))).Nodup:=KB (A:=[K.w,K.i,K.j]) (B:=aM p1) jz (λy hy=>h.lt y (by rw[h.own];exact hy)) hb;have gL:Nw L s L':=λy hy=>by
  have Dj:y∈K.w::K.i::K.j::([b]++(aM p2++(aM p3++aM p4))):=hy;rw[h.own];simp only[dC,fE,List.mem_nil_iff,oe]at Dj⊢;grind
 have ahE: ∀y,y∉aM p1->y≠K.w->∀c,s[y]? =some c->(s1.set K.w (some ⟨false,rf K { v with aK:=v.aK++[x] } (dI 3 (some (b,0)) (v.aK.length+1)) (dI z2 p2 v.aU.length) (dI z3 p3 v.aH.length) (dI z4 p4 v.free.length)⟩))[y]? =some c:=λy h1 h2 c hc=>by
  rw[jZ (by omega)];exact cF.2 y c h1 hc
 have fh:Fx (K.w::aM p1) s (s1.set K.w (some ⟨false,rf K { v with aK:=v.aK++[x] } (dI 3 (some (b,0)) (v.aK.length+1)) (dI z2 p2 v.aU.length) (dI z3 p3 v.aH.length) (dI z4 p4 v.free.length)⟩)):=
  ⟨fI.1,by grind⟩
 have jh: ∀y,y∈aM p2++(aM p3++aM p4)->y∉K.w::aM p1:=λy hy hm=>by
  rcases dC.1 hm with e|e
  .grind
  .have vR:=jz
   simp only[yk,vi]at vR;grind
 have uG:b≠K.w:=λe=>by have:=(dB.1 h.cell).1;omega
 refine⟨b,s1,_,L',he,λKc=>?_,⟨3,some (b,0),z2,p2,z3,p3,z4,p4,hd,⟨?_,.inl rfl,h.e2,h.e3,h.e4,?_,?_,?_,?_,?_,?_,?_,?_,rfl,C8⟩⟩,fI,gL⟩
 .rw[vu cG (by show 11<19;omega)]
  rfl
 .rw[lC (by have:=(dB.1 cG).1;exact this),bz];rfl
 .rw[G3]
  exact(show ba [] s1 (some (b,0)) (bR v.aK++bR [x])from ho).fx (Fx.set s1 K.w _) (λy hy=>by
   rw[cj.1 hy,cj];exact uG)
 .exact h.o2.fx fh λy hy=>jh y (by simp[hy])
 .exact h.o3.fx fh λy hy=>jh y (by simp[hy])
 .exact h.o4.fx fh λy hy=>jh y (by simp[hy])
 .exact h.aU.fx fI gL
 .exact h.set.fx fh (λhm=>by
   grind) (λhm=>by
   grind)
 .exact Sl.fx h.img fI h.off
 .exact h.off.new h.img gL
def uq (sup:eC) (x:bA):Bool:=(bif decide (x.gen>=1)then decide (x.gen<=sup.g)else false)&&(bif (bif x.live then true else decide (x.gen<sup.g))then true else x.block==0)
def nD (x:bA):Bool:=(x.live==false)&&((x.gen==0)&&((x.block==0)&&true))
def rG (K:bV) (k:Int) (x:bA) (v:bj):Option bj:=
 bif decide (k>=K.sup.used)then(bif nD x then some v else none)
 else(bif uq K.sup x then some { v with aK:=v.aK++[x] } else none)
def oq (K:bV):Int->List bA->bj->Option bj
 |_,[],v=>some v
 |k,x::r,v=>match rG K k x v with
  |none=>none
  |some v'=>oq K (k+1) r v'
def nP (K:bV) (k slot:Int) (v:bj):Option bj:=match dN K k v with
 |some (.leaf x,v')=>oq K slot x v'
 |_=>none
variable {K:bV} {v v':bj}
theorem Zry {x:bA} (h:rG K k x v=some v'):v'.aK.length<=v.aK.length+1:=by
 grind[rG]
theorem ZnU {K:bV} : ∀ {x:List bA} {k:Int} {v v':bj},oq K k x v=some v'->v'.aK.length<=v.aK.length+x.length
 |[],_,_,_,h=>by cases h;simp
 |x::r,k,v,v',h=>by
  unfold oq at h;cases h1:rG K k x v with
  |none=>rw[h1]at h;cases h
  |some w=>
   rw[h1]at h;have:=Zry h1;have:=ZnU h;simp;omega
structure B0 (K:bV):Prop where
 m:K.sup.blocks=(K.m:Int)
 EM:K.m*64<=K.img.length
 len:K.img.length<1000000
theorem ec.wk (h:ec K s v L z1 p1 z2 p2 z3 p3 z4 p4 hd):Wk K s v L:=⟨_,_,_,_,_,_,_,_,_,h⟩
theorem ZxW {Bd:Zh} (h:HA Bd) (n:Nat) (hK:B0 K) (k slot:Int) (IM:0<=slot) (fm:slot<=100000) (hW:Wk K s v L) (hl:v.aK.length<100000) (hn:180<=n):
  Ok (rD K s L (nP K k slot v) []) (run Bd n 229 [.ptr (some (K.w,0)),.int .i64 k,.int .i64 slot] s):=by
 obtain⟨n,rfl⟩: ∃k,n=k+2:=⟨n-2,by omega⟩;rw[Ze,h.acz];unfold OR gP tQ Q_ cI Zm C_ az nx Li rC Lb nP;simp only[gj,av,aq,Za];obtain⟨z1,p1,z2,p2,z3,p3,z4,p4,hd,hW⟩:=hW;refine Ok.vA (hW.take h (n+1) k hK.m hK.EM hK.len (by omega)) ?_ ?_
 .intro s' hp
  cases ht:dN K k v with
  |none=>rw[ht]at hp;cases hp;exact⟨s,rfl,.refl L s⟩
  |some q=>rw[ht]at hp;grind
 intro ds s1 hp;cases ht:dN K k v with
 |none=>rw[ht]at hp;cases hp
 |some q=>
  obtain⟨b,v1⟩:=q;rw[ht]at hp;obtain⟨d,s2,e,iA,cF,hb⟩:=hp;cases e;have xO:v1.aK=v.aK:=by
   unfold dN at ht;grind
  have pN:Fx L s s1:=cF.mono λy hy=>by rw[cj.1 hy];exact hW.wc
  simp only[BU,aq];cases b with
  |node x=>obtain⟨p,rfl,_⟩:=hb;exact .mk ⟨s1,rfl,pN⟩
  |cc x=>obtain⟨rfl,_⟩:=hb;exact .mk ⟨s1,rfl,pN⟩
  |queue x=>obtain⟨rfl,_⟩:=hb;exact .mk ⟨s1,rfl,pN⟩
  |dir x=>obtain⟨p,rfl,_⟩:=hb;exact .mk ⟨s1,rfl,pN⟩
  |none=>cases hb;exact .mk ⟨s1,rfl,pN⟩
  |leaf x=>
   obtain⟨rfl,hx⟩:=hb;have hlen:(bR x).length=21:=by rw[Zz,hx]
   show Ok (rD K s L (oq K slot x v1) []) (bx (bR x) 21 _ _);obtain⟨R,hR⟩: ∃R,oq K slot x v1=R:=⟨_,rfl⟩;rw[hR];rw[bF hlen,show(bR x).take 21=bR x from dq (by omega)];refine Zj _ (λq y t=>∃(i:Nat) (u:bj) (Lu:al),y=[.int .i64 i]/\i<=7/\7-i<=q/\Wk K t u Lu/\Fx L s t/\Nw L s Lu/\u.aK.length<=v.aK.length+i/\oq K (slot+i) (x.drop i) u=R) ?_ 7 (n+1) _ _ ⟨0,v1,L,rfl,by omega,by omega,iA.wk,pN,.refl L s,by rw[xO];omega,by simp[hR]⟩ (by omega);rintro q _ t ⟨i,u,Lu,rfl,hi,hq,dQ,fw,jA,xN,aN⟩ rec aP;simp only[av,aq];by_cases ax:i<7
   .rw[aw (show(i:Int)<7 by omega),ae,Zb (show aQ (i:Int) 7=true from Zi ax),bu]
    have lV:x[i]? =some (x[i]'(by omega)):=by grind
    rw[K6 lV];have fH:x.drop i=(x[i]'(by omega))::x.drop (i+1):=iI (by omega);rw[fH]at aN;generalize x[i]'(by omega)=e at aN;obtain⟨z1,p1,z2,p2,z3,p3,z4,p4,hd,dQ⟩:=dQ;rw[bF (cs:=ez e) (n:=3) rfl,aX,Zo dQ.cell rfl];simp only[aY];have cG:ar (slot+(i:Int))=slot+i:=Zc;have fP:ar ((i:Int)+1)=((i+1:Nat):Int):=Zc;rw[cG,fP];unfold oq rG at aN;have tw:slot+((i+1:Nat):Int)=slot+i+1:=by omega
    cases hk:decide (slot+(i:Int)>=K.sup.used)with
    |true=>
     rw[hk,ae]at aN;rw[ae];show Ok _ (c9 (run Bd (n+1) 225 [.bool (nD e)]) _ t);cases h0:nD e with
     |true=>
      rw[h0]at aN;rw[sT h n rfl];simp only[aq];exact aP (7-(i+1)) _ _ (by omega) ⟨i+1,u,Lu,rfl,by omega,aL _,dQ.wk,fw,jA,by omega,by rw[tw];exact aN⟩
     |false=>
      rw[h0]at aN;rw[Z7 h n rfl];simp only[af]at aN;rw[<-aN];exact .mk ⟨t,rfl,fw⟩
    |false=>
     rw[hk,af]at aN;rw[af];have nM:rf K u (dI z1 p1 u.aK.length) (dI z2 p2 u.aU.length) (dI z3 p3 u.aH.length) (dI z4 p4 u.free.length)=rf K u (dI z1 p1 u.aK.length) (dI z2 p2 u.aU.length) (dI z3 p3 u.aH.length) (dI z4 p4 u.free.length):=rfl;clear nM;have mV:Ok (rD K s L R []) (c9 (run Bd (n+1) 225 [.bool (uq K.sup e)]) (λds=>aJ ds<|bJ (some (K.w,0)) λi1 o1=>bG i1 (o1+11) λd3=>dE 3 d3 λx4 dh=>bx (ez e) 3<|cg (ez e) λi2=>bS i2 0 3 λbN=>cm 3 x4 dh bN 1 2932031007402 λp=>bJ (some (K.w,0)) λi3 o2=>ee i3 (o2+11) [.slice 3 p (dh+1)]<|rec [.int .i64 ((i+1:Nat):Int)]) t):=by
      cases h0:uq K.sup e with
      |true=>
       rw[h0]at aN;rw[sT h n rfl];simp only[aq,aX];rw[Zo dQ.cell rfl];show Ok _ (dE 3 (.slice z1 p1 u.aK.length) _ t);rw[ue 3 z1 p1 _ dQ.e1,bF (cs:=ez e) (n:=3) rfl];obtain⟨b,t1,t2,L2,g1,g2,g3,g4,g5⟩:=dQ.agr (β:=ah) e (by omega);rw[g1,ej,g2];exact aP (7-(i+1)) _ _ (by omega) ⟨i+1,_,L2,rfl,by omega,aL _,g3,fw.step g4 jA,jA.trans fw.1 g5,by simp;omega,by rw[tw];exact aN⟩
      |false=>
       rw[h0]at aN;rw[Z7 h n rfl];simp only[af]at aN;rw[<-aN];exact .mk ⟨t,rfl,fw⟩
     unfold uq at mV;rw[hU (i:=1) (d:= .int .i64 e.gen) rfl];simp only[aY];have tD: ∀Kc:DV->M ah,bG K.w (0+4) Kc t=Kc (.int .i64 K.sup.g) t:=λKc=>Zo dQ.cell rfl Kc
     cases nM:decide (e.gen>=1)with
     |false=>
      simp only[nM,af,eG]at mV;simp only[af,au,aq];exact mV
     |true=>
      simp only[nM,ae]at mV;rw[ae,hU (i:=1) (d:= .int .i64 e.gen) rfl];simp only[aY,aX];rw[tD];simp only[aY,au,aq];cases pO:decide (e.gen<=K.sup.g)with
      |false=>
       simp only[pO,eG]at mV;simp only[af];exact mV
      |true=>
       simp only[pO,de]at mV;rw[ae,hU (i:=0) (d:= .bool e.live) rfl];simp only[sP];cases fj:e.live with
       |true=>
        simp only[fj,ae]at mV;rw[ae];simp only[ae];exact mV
       |false=>
        simp only[fj,af]at mV;rw[af,hU (i:=1) (d:= .int .i64 e.gen) rfl];simp only[aY];rw[tD];simp only[aY];cases Ia:decide (e.gen<K.sup.g)with
        |true=>
         simp only[Ia,ae]at mV;rw[ae];exact mV
        |false=>
         simp only[Ia,af]at mV;rw[af,hU (i:=2) (d:= .int .i64 e.block) rfl];simp only[aY];exact mV
   .rw[aB (show ¬(i:Int)<7 by omega),af]
    rw[kz (by omega)]at aN;simp only[Zd];rw[<-aN];exact .mk ⟨t,Lu,rfl,dQ,fw,jA⟩
theorem ZmE {x:List bA} (h:ZX l= .leaf x):x.length=7:=by
 unfold ZX at h;split at h
 .cases h
 .split at h
  .rename_i e;cases h;exact GK e
  grind
theorem sV {b:BQ} (h:dN K k v=some (b,v')):v'.aK=v.aK/\v'.aU=v.aU/\v'.aH=v.aH/\v'.free=v.free/\v'.nodes=v.nodes/\b=ZX (ZB K.img k.toNat):=by
 grind[dN]
theorem Zp4 (h:nP K k slot v=some v'):v'.aK.length<=v.aK.length+7:=by
 unfold nP at h;cases ht:dN K k v with
 |none=>rw[ht]at h;cases h
 |some q=>
  obtain⟨b,v1⟩:=q;rw[ht]at h;obtain⟨h1,_,_,_,_,h2⟩:=sV ht;cases b with
  |leaf x=>
   have:=ZnU h;rw[h1,ZmE h2.symm]at this;exact this
  |node x=>cases h
  |cc x=>cases h
  |queue x=>cases h
  |dir x=>cases h
  |none=>cases h
def lg (K:bV) (cM x5:Int):Int->ak->bj->Option bj
 |_,[],v=>some v
 |k,y::r,v=>bif (!(y==0))==decide (x5*16+k<cM)then(bif !(y==0)then(match nP K y ((x5*16+k)*7) v with
   |none=>none
   |some v'=>lg K cM x5 (k+1) r v')else lg K cM x5 (k+1) r v)else none
def pG (K:bV) (cM:Int):Int->ak->bj->Option bj
 |_,[],v=>some v
 |k,y::r,v=>bif (!(y==0))==decide (k*16<cM)then(bif y==0 then pG K cM (k+1) r v else(match dN K y v with
   |some (.cc x,v')=>(match lg K cM k 0 x v' with
    |none=>none
    |some v''=>pG K cM (k+1) r v'')
   |_=>none))else none
def qu (K:bV) (v:bj):Option bj:=bif K.sup.used==0 then some v else(match dN K K.sup.cc v with
 |some (.cc x,v')=>pG K (Ah K.sup.used) 0 x v'
 |_=>none)
theorem Rv {K:bV} {cM x5:Int} : ∀ {x:ak} {k:Int} {v v':bj},lg K cM x5 k x v=some v'->v'.aK.length<=v.aK.length+7*x.length
 |[],_,_,_,h=>by cases h;simp
 |y::r,k,v,v',h=>by
  unfold lg at h;cases h1:((!(y==0))==decide (x5*16+k<cM))with
  |false=>rw[h1]at h;cases h
  |true=>
   rw[h1,ae]at h;cases h2:(!(y==0))with
   |false=>
    rw[h2,af]at h;have:=Rv h;simp;omega
   |true=>
    rw[h2,ae]at h;cases h3:nP K y ((x5*16+k)*7) v with
    |none=>rw[h3]at h;cases h
    |some w=>
     rw[h3]at h;have:=Rv h;have:=Zp4 h3;simp;omega
theorem Zxm {Bd:Zh} (hL:HA Bd) (hM:HA Bd) (n:Nat) (hK:B0 K) (cM:Int) (i5:Nat) (h5:i5<16) (x:ak) (hx:x.length=16) (hn:181<=n) (s:St) (L:al) (t0:St) (L0:al) (v0:bj)
  (hW:Wk K t0 v0 L0) (hf:Fx L s t0) (gL:Nw L s L0) (hl:v0.aK.length<10000)
  (R:Option bj) (Kn:M ah) (aN: ∀w,lg K cM (i5:Int) 0 x v0=some w->∀t Lw,Wk K t w Lw->Fx L s t->Nw L s Lw->Ok (rD K s L R []) (Kn t)) (cx:lg K cM (i5:Int) 0 x v0=none->R=none):
  Ok (rD K s L R []) (cY (λdA st=>
      aF .i64 st λx8 st=>
      aJ st<|
      bif decide (x8<16)then
       aC (aQ x8 16)<|
      eD ((ints x).take 16) (x8.toNat*1) λd6=>
      cT .i64 d6 λx9=>
      c9 (run Bd n 225 [.bool ((!(x9==0))==(decide (ar ((ar ((i5:Int)*16))+x8)<cM)))]) λds=>
      aJ ds<|
      bif !(x9==0)then
       c9 (run Bd n 229 [.ptr (some (K.w,0)),.int .i64 x9,.int .i64 (ar ((ar ((ar ((i5:Int)*16))+x8))*7))]) λds=>
      aJ ds<|
      dA [.int .i64 (ar (x8+1))]
      else
       dA [.int .i64 (ar (x8+1))]
      else
       Kn) n [.int .i64 0] t0):=by
 obtain⟨n,rfl⟩: ∃k,n=k+1:=⟨n-1,by omega⟩;rw[show(ints x).take 16=ints x from dq (by simp[ints,hx])];obtain⟨G,hG⟩: ∃G,lg K cM (i5:Int) 0 x v0=G:=⟨_,rfl⟩;rw[hG]at aN cx;refine Zj _ (λq y t=>∃(i:Nat) (u:bj) (Lu:al),y=[.int .i64 i]/\i<=16/\16-i<=q/\Wk K t u Lu/\Fx L s t/\Nw L s Lu/\u.aK.length<=v0.aK.length+7*i/\lg K cM i5 i (x.drop i) u=G) ?_ 16 (n+1) _ _ (by grind) (by omega);rintro q _ t ⟨i,u,Lu,rfl,hi,hq,dQ,fw,jA,xN,dR⟩ rec aP;simp only[av,aq];by_cases ax:i<16
 .have fH:x.drop i=(x[i]'(by omega))::x.drop (i+1):=iI (by omega)
  rw[fH]at dR;rw[aw (show(i:Int)<16 by omega),ae,Zb (show aQ (i:Int) 16=true from Zi ax),bu,cP,hU (ZA)];simp only[aY];generalize x[i]'(by omega)=y at dR;have cG:ar ((i5:Int)*16)=(i5:Int)*16:=Zc;have fP:ar ((i5:Int)*16+i)=(i5:Int)*16+i:=Zc;have jO:ar (((i5:Int)*16+i)*7)=((i5:Int)*16+i)*7:=Zc;have ko:ar ((i:Int)+1)=((i+1:Nat):Int):=Zc;rw[cG,fP,jO,ko];have tw:((i+1:Nat):Int)=(i:Int)+1:=by omega
  unfold lg at dR;cases h1:((!(y==0))==decide ((i5:Int)*16+i<cM))with
  |false=>
   rw[h1,af]at dR;rw[Z7 hM n rfl];rw[cx dR.symm];exact .mk ⟨t,rfl,fw⟩
  |true=>
   rw[h1,ae]at dR;rw[sT hM n rfl];simp only[aq];cases h2:(!(y==0))with
   |false=>
    rw[h2,af]at dR;rw[af];exact aP (16-(i+1)) _ _ (by omega) (by grind)
   |true=>
    rw[h2,ae]at dR;rw[ae];refine Ok.vA (ZxW hL (n+1) hK y (((i5:Int)*16+i)*7) (by omega) (by omega) dQ (by omega) (by omega)) ?_ ?_
    .intro t' hp
     cases h3:nP K y (((i5:Int)*16+i)*7) u with
     |some w=>rw[h3]at hp;obtain⟨_,_,e,_⟩:=hp;cases e
     |none=>
      rw[h3]at hp dR;obtain⟨t2,e,nK⟩:=hp;cases e;rw[cx dR.symm];exact⟨t',rfl,fw.step nK jA⟩
    .intro ds t' hp
     cases h3:nP K y (((i5:Int)*16+i)*7) u with
     |none=>rw[h3]at hp;obtain⟨_,e,_⟩:=hp;cases e
     |some w=>
      rw[h3]at hp dR;obtain⟨t2,L2,e,mT,nK,vR⟩:=hp;cases e;simp only[aq];have gZ:=Zp4 h3;exact aP (16-(i+1)) _ _ (by omega) ⟨i+1,w,L2,rfl,by omega,aL _,mT,fw.step nK jA,jA.trans fw.1 vR,by omega,by rw[tw];exact dR⟩
 .rw[aB (show ¬(i:Int)<16 by omega),af]
  rw[kz (by omega)]at dR;exact aN u dR.symm t Lu dQ fw jA
theorem Zwh (n:Nat) (hK:B0 K) (hW:Wk K s v L) (hl:v.aK.length<1000) (hn:190<=n):
  Ok (rD K s L (qu K v) []) (run Bd n 226 [.ptr (some (K.w,0))] s):=by
 obtain⟨n,rfl⟩: ∃k,n=k+2:=⟨n-2,by omega⟩;rw[Ze,h.acw];unfold Oz jn Zm cQ tQ Q_ cI C_ Li nx Lb qu;simp only[gj,aq,Za,aX];obtain⟨z1,p1,z2,p2,z3,p3,z4,p4,hd,hW⟩:=hW;rw[Zo hW.cell rfl];simp only[aY];cases hu:(K.sup.used==0)with
 |true=>
  rw[ae,ae,Zd];exact .mk ⟨s,L,rfl,hW.wk,.refl L s,.refl L s⟩
 |false=>
  rw[af,af,Zo hW.cell rfl];simp only[aY];have lR:=Zpk (n-1) K.sup.used s;rw[show n-1+2=n+1 by omega]at lR;rw[Zk lR];simp only[av,aq];rw[Zo hW.cell rfl];simp only[aY];generalize Ah K.sup.used=cM;refine Ok.vA (hW.take h (n+1) K.sup.cc hK.m hK.EM hK.len (by omega)) ?_ ?_
  .intro s' hp
   cases ht:dN K K.sup.cc v with
   |none=>rw[ht]at hp;cases hp;exact⟨s,rfl,.refl L s⟩
   |some q=>rw[ht]at hp;grind
  intro ds s1 hp;cases ht:dN K K.sup.cc v with
  |none=>rw[ht]at hp;cases hp
  |some q=>
   obtain⟨b,v1⟩:=q;rw[ht]at hp;obtain⟨d,s2,e,iA,cF,hb⟩:=hp;cases e;have xO:=(sV ht).1;have pN:Fx L s s1:=cF.mono λy hy=>by rw[cj.1 hy];exact hW.wc
   simp only[BU,aq];cases b with
   |node x=>obtain⟨p,rfl,_⟩:=hb;exact .mk ⟨s1,rfl,pN⟩
   |leaf x=>obtain⟨rfl,_⟩:=hb;exact .mk ⟨s1,rfl,pN⟩
   |queue x=>obtain⟨rfl,_⟩:=hb;exact .mk ⟨s1,rfl,pN⟩
   |dir x=>obtain⟨p,rfl,_⟩:=hb;exact .mk ⟨s1,rfl,pN⟩
   |none=>cases hb;exact .mk ⟨s1,rfl,pN⟩
   |cc x=>
    obtain⟨rfl,hx⟩:=hb;have hlen:(ints x).length=16:=by simp[ints,hx]
    show Ok (rD K s L (pG K cM 0 x v1) []) (bx (ints x) 16 _ _);obtain⟨R,hR⟩: ∃R,pG K cM 0 x v1=R:=⟨_,rfl⟩;rw[hR,bF hlen,show(ints x).take 16=ints x from dq (by omega)];refine Zj _ (λq y t=>∃(i:Nat) (u:bj) (Lu:al),y=[.int .i64 i]/\i<=16/\16-i<=q/\Wk K t u Lu/\Fx L s t/\Nw L s Lu/\u.aK.length<=v.aK.length+112*i/\pG K cM i (x.drop i) u=R) ?_ 16 (n+1) _ _ ⟨0,v1,L,rfl,by omega,by omega,iA.wk,pN,.refl L s,by rw[xO];omega,by simpa using hR⟩ (by omega);rintro q _ t ⟨i,u,Lu,rfl,hi,hq,dQ,fw,jA,xN,aN⟩ rec aP;simp only[av,aq];by_cases ax:i<16
    .have fH:x.drop i=(x[i]'(by omega))::x.drop (i+1):=iI (by omega)
     rw[fH]at aN;rw[aw (show(i:Int)<16 by omega),ae,Zb (show aQ (i:Int) 16=true from Zi ax),bu,cP,hU (ZA)];simp only[aY];generalize x[i]'(by omega)=y at aN;have cG:ar ((i:Int)*16)=(i:Int)*16:=Zc;have ko:ar ((i:Int)+1)=((i+1:Nat):Int):=Zc;have tw:((i+1:Nat):Int)=(i:Int)+1:=by omega
     rw[show decide (ar ((i:Int)*16)<cM)=decide ((i:Int)*16<cM) by rw[cG]];unfold pG at aN;cases h1:((!(y==0))==decide ((i:Int)*16<cM))with
     |false=>
      rw[h1,af]at aN;rw[Z7 h n rfl,<-aN];exact .mk ⟨t,rfl,fw⟩
     |true=>
      rw[h1,ae]at aN;rw[sT h n rfl];simp only[aq];cases h2:(y==0)with
      |true=>
       rw[h2,ae]at aN;rw[ae,ko];exact aP (16-(i+1)) _ _ (by omega) (by grind)
      |false=>
       rw[h2,af]at aN;rw[af];obtain⟨z1,p1,z2,p2,z3,p3,z4,p4,hd,dQ⟩:=dQ;refine Ok.vA (dQ.take h (n+1) y hK.m hK.EM hK.len (by omega)) ?_ ?_
       .intro s' hp
        cases ht:dN K y u with
        |none=>rw[ht]at hp aN;cases hp;rw[<-aN];exact⟨t,rfl,fw⟩
        |some q=>rw[ht]at hp;grind
       intro ds t1 hp;cases ht:dN K y u with
       |none=>rw[ht]at hp;cases hp
       |some q=>
        obtain⟨b,u1⟩:=q;rw[ht]at hp aN;obtain⟨d,s2,e,mT,fI,hb⟩:=hp;cases e;have zg:=(sV ht).1;have se:Fx L s t1:=fw.step (fI.mono (T':=Lu) λy hy=>by rw[cj.1 hy];exact dQ.wc) jA;simp only[BU,aq];cases b with
        |node x=>obtain⟨p,rfl,_⟩:=hb;rw[<-aN];exact .mk ⟨t1,rfl,se⟩
        |leaf x=>obtain⟨rfl,_⟩:=hb;rw[<-aN];exact .mk ⟨t1,rfl,se⟩
        |queue x=>obtain⟨rfl,_⟩:=hb;rw[<-aN];exact .mk ⟨t1,rfl,se⟩
        |dir x=>obtain⟨p,rfl,_⟩:=hb;rw[<-aN];exact .mk ⟨t1,rfl,se⟩
        |none=>cases hb;rw[<-aN];exact .mk ⟨t1,rfl,se⟩
        |cc x2=>
         obtain⟨rfl,Dh⟩:=hb;have Fy:(ints x2).length=16:=by simp[ints,Dh]
         show Ok _ (bx (ints x2) 16 _ _);rw[bF Fy];refine Zxm h h (n+1) hK cM i ax x2 Dh (by omega) s L t1 Lu u1 mT.wk se jA (by rw[zg];omega) R (rec [.int .i64 (ar ((i:Int)+1))]) ?_ ?_
         .intro w hw t2 Lw hWw MJ gL
          have gZ:=Rv hw;simp only at aN;rw[hw]at aN;rw[ko];refine aP (16-(i+1)) _ _ (by omega) ⟨i+1,w,Lw,rfl,by omega,aL _,hWw,MJ,gL,?_,by rw[tw];exact aN⟩;rw[zg]at gZ;omega
         grind
    .rw[aB (show ¬(i:Int)<16 by omega),af]
     rw[kz (by omega)]at aN;rw[Zd,<-aN];exact .mk ⟨t,Lu,rfl,dQ,fw,jA⟩
theorem Sr {B:al} (h:(A++(B++C)).Nodup): ∀y∈A++C,y∉B:=by
 rw[vi,vi]at h;grind
theorem ec.ago (h:ec K s v L z1 p1 z2 p2 z3 p3 z4 p4 hd) (x:Int) (hl:v.free.length<1000000):
  ∃b s1 s2 L',(∀Kc:ai->M β,(cg [DV.int .i64 x] λi=>bS i 0 1 λcs'=>cm 1 p4 v.free.length cs' 1 8796093022208 Kc) s=Kc (some (b,0)) s1)/\
   (∀Kc:M β,ee K.w 17 [.slice 1 (some (b,0)) (v.free.length+1)] Kc s1=Kc s2)/\ec K s2 { v with free:=v.free++[x] } L' z1 p1 z2 p2 z3 p3 1 (some (b,0)) (hd)/\Fx L s s2/\Nw L s L'/\Fx (K.w::aM p4) s s2:=by
 obtain⟨b,s1,hb,ho,cF,he⟩:=yw (β:=β) (lim:=8796093022208) h.o4 (sz:=1) (n:=v.free.length) [DV.int .i64 x] (by omega) (by simp[ints]) rfl;have du:=h.ne;have cG:=cF.2 K.w _ (by grind) h.cell;have CM: ∀x∈aM p4,x∈L:=λx hx=>by rw[h.own];simp[hx]
 let L':=K.w::K.i::K.j::(aM p1++(aM p2++(aM p3++aM (some (b,0)))))
 let S':=s1.set K.w (some ⟨false,rf K { v with free:=v.free++[x] } (dI z1 p1 v.aK.length) (dI z2 p2 v.aU.length) (dI z3 p3 v.aH.length) (dI 1 (some (b,0)) (v.free.length+1))⟩)
 have fI:Fx L s S':=
  (cF.mono CM).trans ((Fx.set s1 K.w _).mono λy hy=>by rw[cj.1 hy];exact h.Ds)
 have jz:((K.w::K.i::K.j::(aM p1++(aM p2++aM p3)))++(aM p4++([]:al))).Nodup:=by
  have:=h.nodup;rw[h.own]at this;grind
 have Iq: ∀y∈(K.w::K.i::K.j::(aM p1++(aM p2++aM p3)))++(aM p4++([]:al)),y<s.length:=λy hy=>h.lt y (by
  rw[h.own];grind)
 have C8:L'.Nodup:=by
  have:=KB jz Iq hb;show(K.w::K.i::K.j::(aM p1++(aM p2++(aM p3++aM (some (b,0)))))).Nodup;simpa only[fD,nr,gU,gG,aM]using this
 have gL:Nw L s L':=λy hy=>by
  have Dj:y∈K.w::K.i::K.j::(aM p1++(aM p2++(aM p3++aM (some (b,0))))):=hy;rw[h.own];by_cases e:y=b
  .exact .inr (by omega)
  .refine .inl ?_
   simp only[dC,fE,aM,List.mem_nil_iff,oe]at Dj⊢;grind
 have fh:Fx (K.w::aM p4) s S':=
  ⟨fI.1,λy c hy hc=>by
   simp only[dC,not_or]at hy;show(s1.set K.w _)[y]? =_;rw[jZ (by omega)];exact cF.2 y c hy.2 hc⟩
 have Is:=Sr jz;have jh: ∀y,y∈aM p1++(aM p2++aM p3)->y∉K.w::aM p4:=λy hy hm=>by
  rcases dC.1 hm with e|e
  .grind
  .exact Is y (by grind) e
 have uG:b≠K.w:=λe=>by have:=(dB.1 h.cell).1;omega
 refine⟨b,s1,S',L',he,λKc=>?_,⟨?_,h.e1,h.e2,h.e3,.inl rfl,?_,?_,?_,?_,?_,?_,?_,?_,rfl,C8⟩,fI,gL,fh⟩
 .rw[vu cG (by show 17<19;omega)]
  rfl
 .show(s1.set K.w _)[K.w]? =_
  rw[lC (by have:=(dB.1 cG).1;exact this),bz];rfl
 .exact h.o1.fx fh λy hy=>jh y (by simp[hy])
 .exact h.o2.fx fh λy hy=>jh y (by simp[hy])
 .exact h.o3.fx fh λy hy=>jh y (by simp[hy])
 .rw[show ints (v.free++[x])=ints v.free++[.int .i64 x] by unfold ints;rw[fg];rfl]
  exact(show ba [] s1 (some (b,0)) _ from ho).fx (Fx.set s1 K.w _) (λy hy=>by
   rw[cj.1 hy,cj];exact uG)
 .exact h.aU.fx fI gL
 .exact h.set.fx fh (λhm=>by
   grind) (λhm=>by
   grind)
 .exact Sl.fx h.img fI h.off
 .exact h.off.new h.img gL
theorem ec.agp (h:ec K s v L z1 p1 z2 p2 z3 p3 z4 p4 hd) (x:Int) (hl:v.aH.length<1000000):
  ∃b s1 s2 L',(∀Kc:ai->M β,(cg [DV.int .i64 x] λi=>bS i 0 1 λcs'=>cm 1 p3 v.aH.length cs' 1 8796093022208 Kc) s=Kc (some (b,0)) s1)/\
   (∀Kc:M β,ee K.w 16 [.slice 1 (some (b,0)) (v.aH.length+1)] Kc s1=Kc s2)/\ec K s2 { v with aH:=v.aH++[x] } L' z1 p1 z2 p2 1 (some (b,0)) z4 p4 (hd)/\Fx L s s2/\Nw L s L'/\Fx (K.w::aM p3) s s2:=by
 obtain⟨b,s1,hb,ho,cF,he⟩:=yw (β:=β) (lim:=8796093022208) h.o3 (sz:=1) (n:=v.aH.length) [DV.int .i64 x] (by omega) (by simp[ints]) rfl;have du:=h.ne;have cG:=cF.2 K.w _ (by grind) h.cell;have CM: ∀x∈aM p3,x∈L:=λx hx=>by rw[h.own];simp[hx]
 let L':=K.w::K.i::K.j::(aM p1++(aM p2++(aM (some (b,0))++aM p4)))
 let S':=s1.set K.w (some ⟨false,rf K { v with aH:=v.aH++[x] } (dI z1 p1 v.aK.length) (dI z2 p2 v.aU.length) (dI 1 (some (b,0)) (v.aH.length+1)) (dI z4 p4 v.free.length)⟩)
 have fI:Fx L s S':=
  (cF.mono CM).trans ((Fx.set s1 K.w _).mono λy hy=>by rw[cj.1 hy];exact h.Ds)
 have jz:((K.w::K.i::K.j::(aM p1++aM p2))++(aM p3++aM p4)).Nodup:=by
  have:=h.nodup;rw[h.own]at this;grind
 have Iq: ∀y∈(K.w::K.i::K.j::(aM p1++aM p2))++(aM p3++aM p4),y<s.length:=λy hy=>h.lt y (by
  rw[h.own];grind)
 have C8:L'.Nodup:=by
  have:=KB jz Iq hb;show(K.w::K.i::K.j::(aM p1++(aM p2++(aM (some (b,0))++aM p4)))).Nodup;simpa only[fD,nr,gU,gG,aM]using this
 have gL:Nw L s L':=λy hy=>by
  have Dj:y∈K.w::K.i::K.j::(aM p1++(aM p2++(aM (some (b,0))++aM p4))):=hy;rw[h.own];by_cases e:y=b
  .exact .inr (by omega)
  .refine .inl ?_
   simp only[dC,fE,aM,List.mem_nil_iff,oe]at Dj⊢;grind
 have fh:Fx (K.w::aM p3) s S':=
  ⟨fI.1,λy c hy hc=>by
   simp only[dC,not_or]at hy;show(s1.set K.w _)[y]? =_;rw[jZ (by omega)];exact cF.2 y c hy.2 hc⟩
 have Is:=Sr jz;have jh: ∀y,y∈aM p1++(aM p2++aM p4)->y∉K.w::aM p3:=λy hy hm=>by
  rcases dC.1 hm with e|e
  .grind
  .exact Is y (by simp only[fE,dC]at hy⊢;rcases hy with e|e|e<;>simp[e]) e
 have uG:b≠K.w:=λe=>by have:=(dB.1 h.cell).1;omega
 refine⟨b,s1,S',L',he,λKc=>?_,⟨?_,h.e1,h.e2,.inl rfl,h.e4,?_,?_,?_,?_,?_,?_,?_,?_,rfl,C8⟩,fI,gL,fh⟩
 .rw[vu cG (by show 16<19;omega)]
  rfl
 .show(s1.set K.w _)[K.w]? =_
  rw[lC (by have:=(dB.1 cG).1;exact this),bz];rfl
 .exact h.o1.fx fh λy hy=>jh y (by simp[hy])
 .exact h.o2.fx fh λy hy=>jh y (by simp[hy])
 .rw[show ints (v.aH++[x])=ints v.aH++[.int .i64 x] by unfold ints;rw[fg];rfl]
  exact(show ba [] s1 (some (b,0)) _ from ho).fx (Fx.set s1 K.w _) (λy hy=>by
   rw[cj.1 hy,cj];exact uG)
 .exact h.o4.fx fh λy hy=>jh y (by simp[hy])
 .exact h.aU.fx fI gL
 .exact h.set.fx fh (λhm=>by
   rcases dC.1 hm with e|e
   .exact du.1 e.symm
   .exact(du.2.2.2 K.i (by simp only[fE];grind)).2.1 rfl) (λhm=>by
   rcases dC.1 hm with e|e
   .exact du.2.1 e.symm
   .exact(du.2.2.2 K.j (by simp only[fE];grind)).2.2 rfl)
 .exact Sl.fx h.img fI h.off
 .exact h.off.new h.img gL
theorem ec.agq (h:ec K s v L z1 p1 z2 p2 z3 p3 z4 p4 hd) (x:dr) (hl:v.aU.length<1000000) {p:ai} (hz:z=4\/p=none) (hs:Sl s p (bM x.bW)) (M7:lI L p):
  ∃b s1 s2 L',(∀Kc:ai->M β,(cg (jw x z p) λi=>bS i 0 2 λcs'=>cm 2 p2 v.aU.length cs' 1 1759218604441 Kc) s=Kc (some (b,0)) s1)/\
   (∀Kc:M β,ee K.w 15 [.slice 2 (some (b,0)) (v.aU.length+1)] Kc s1=Kc s2)/\ec K s2 { v with aU:=v.aU++[x] } L' z1 p1 2 (some (b,0)) z3 p3 z4 p4 (hd++jw x z p)/\Fx L s s2/\Nw L s L'/\Fx (K.w::aM p2) s s2:=by
 obtain⟨b,s1,hb,ho,cF,he⟩:=yw (β:=β) (lim:=1759218604441) h.o2 (sz:=2) (n:=v.aU.length) (jw x z p) (by omega) h.aU.aU.len rfl;have du:=h.ne;have cG:=cF.2 K.w _ (by grind) h.cell;have CM: ∀x∈aM p2,x∈L:=λx hx=>by rw[h.own];simp[hx]
 let L':=K.w::K.i::K.j::(aM p1++(aM (some (b,0))++(aM p3++aM p4)))
 let S':=s1.set K.w (some ⟨false,rf K { v with aU:=v.aU++[x] } (dI z1 p1 v.aK.length) (dI 2 (some (b,0)) (v.aU.length+1)) (dI z3 p3 v.aH.length) (dI z4 p4 v.free.length)⟩)
 have fI:Fx L s S':=
  (cF.mono CM).trans ((Fx.set s1 K.w _).mono λy hy=>by rw[cj.1 hy];exact h.Ds)
 have jz:((K.w::K.i::K.j::aM p1)++(aM p2++(aM p3++aM p4))).Nodup:=by
  have:=h.nodup;rw[h.own]at this;grind
 have Iq: ∀y∈(K.w::K.i::K.j::aM p1)++(aM p2++(aM p3++aM p4)),y<s.length:=λy hy=>h.lt y (by
  rw[h.own];grind)
 have C8:L'.Nodup:=by
  have:=KB jz Iq hb;show(K.w::K.i::K.j::(aM p1++(aM (some (b,0))++(aM p3++aM p4)))).Nodup;simpa only[fD,nr,gU,gG,aM]using this
 have gL:Nw L s L':=λy hy=>by
  have Dj:y∈K.w::K.i::K.j::(aM p1++(aM (some (b,0))++(aM p3++aM p4))):=hy;rw[h.own];by_cases e:y=b
  .exact .inr (by omega)
  .refine .inl ?_
   simp only[dC,fE,aM,List.mem_nil_iff,oe]at Dj⊢;grind
 have fh:Fx (K.w::aM p2) s S':=
  ⟨fI.1,λy c hy hc=>by
   simp only[dC,not_or]at hy;show(s1.set K.w _)[y]? =_;rw[jZ (by omega)];exact cF.2 y c hy.2 hc⟩
 have Is:=Sr jz;have jh: ∀y,y∈aM p1++(aM p3++aM p4)->y∉K.w::aM p2:=λy hy hm=>by
  rcases dC.1 hm with e|e
  .grind
  .exact Is y (by simp only[fE,dC]at hy⊢;rcases hy with e|e|e<;>simp[e]) e
 have uG:b≠K.w:=λe=>by have:=(dB.1 h.cell).1;omega
 refine⟨b,s1,S',L',he,λKc=>?_,⟨?_,h.e1,.inl rfl,h.e3,h.e4,?_,?_,?_,?_,?_,?_,?_,?_,rfl,C8⟩,fI,gL,fh⟩
 .rw[vu cG (by show 15<19;omega)]
  rfl
 .show(s1.set K.w _)[K.w]? =_
  rw[lC (by have:=(dB.1 cG).1;exact this),bz];rfl
 .exact h.o1.fx fh λy hy=>jh y (by simp[hy])
 .skip
  exact(show ba [] s1 (some (b,0)) _ from ho).fx (Fx.set s1 K.w _) (λy hy=>by
   rw[cj.1 hy,cj];exact uG)
 .exact h.o3.fx fh λy hy=>jh y (by simp[hy])
 .exact h.o4.fx fh λy hy=>jh y (by simp[hy])
 .exact(h.aU.fx fI gL).push hz (hs.fx fI M7) (M7.new hs gL)
 .exact h.set.fx fh (λhm=>by
   grind) (λhm=>by
   grind)
 .exact Sl.fx h.img fI h.off
 .exact h.off.new h.img gL
def sX (K:bV) (v:bj) (k:Int):Prop:=(v.aK.length:Int)=(if k<=K.sup.used then k else K.sup.used)/\∀x∈v.aK,ZJ x=true
theorem Zs3 {x:bA} (hx:ZJ x=true) (_h0:0<=K.sup.used) (h:rG K k x v=some v') (ha:sX K v k):sX K v' (k+1):=by
 unfold rG at h;by_cases hk:k>=K.sup.used
 .rw[aw hk,ae]at h
  cases h2:nD x with
  |false=>rw[h2]at h;cases h
  |true=>
   rw[h2]at h;cases h;refine⟨?_,ha.2⟩;rw[ha.1];split<;>split<;>omega
 .rw[aB hk,af]at h
  cases h2:uq K.sup x with
  |false=>rw[h2]at h;cases h
  |true=>
   rw[h2]at h;cases h;refine⟨?_,λy hy=>?_⟩
   .have:=ha.1
    rw[bw (by omega)]at this;rw[bw (by omega)];simp;omega
   .rcases fE.1 hy with h|h
    .exact ha.2 y h
    .rw[cj.1 h];exact hx
theorem ZpH {K:bV} (h0:0<=K.sup.used): ∀ {x:List bA} {k:Int} {v v':bj},(∀y∈x,ZJ y=true)->oq K k x v=some v'->sX K v k->sX K v' (k+x.length)
 |[],k,_,_,_,h,ha=>by cases h;simpa using ha
 |y::r,k,v,v',hr,h,ha=>by
  unfold oq at h;cases h1:rG K k y v with
  |none=>rw[h1]at h;cases h
  |some w=>
   rw[h1]at h;have:=ZpH h0 (λz hz=>hr z (by simp[hz])) h (Zs3 (hr y (by simp)) h0 h1 ha);rwa [show k+((y::r).length:Int)=k+1+r.length by simp;omega]
theorem Zqx {x:List bA} (h:ZH l=some x): ∀y∈x,ZJ y=true:=by
 unfold ZH at h;split at h
 .cases h
 .rename_i k t b _
  cases e:(decide (k=2)&&decide (t<128))with
  |false=>rw[e]at h;cases h
  |true=>
   rw[e]at h;cases e2:(ZM b t 7).all ZJ with
   |false=>rw[e2]at h;cases h
   |true=>rw[e2]at h;cases h;exact lA.1 e2
theorem ZqM {x:List bA} (h:ZX l= .leaf x): ∀y∈x,ZJ y=true:=by
 unfold ZX at h;split at h
 .cases h
 .split at h
  .rename_i e;cases h;exact Zqx e
  .split at h
   .cases h
   .split at h
    .cases h
    .split at h<;>cases h
theorem Zwj (h0:0<=K.sup.used) (h:nP K k slot v=some v') (ha:sX K v slot):sX K v' (slot+7):=by
 unfold nP at h;cases ht:dN K k v with
 |none=>rw[ht]at h;cases h
 |some q=>
  obtain⟨b,v1⟩:=q;rw[ht]at h;obtain⟨h1,_,_,_,_,h2⟩:=sV ht;cases b with
  |leaf x=>
   have:=ZpH h0 (ZqM h2.symm) h (by unfold sX;rw[h1];exact ha);rwa [ZmE h2.symm]at this
  |node x=>cases h
  |cc x=>cases h
  |queue x=>cases h
  |dir x=>cases h
  |none=>cases h
theorem Rl {K:bV} (h0:0<=K.sup.used) {cM x5:Int} (hc:K.sup.used<=cM*7): ∀ {x:ak} {k:Int} {v v':bj},lg K cM x5 k x v=some v'->sX K v ((x5*16+k)*7)->sX K v' ((x5*16+k+x.length)*7)
 |[],_,_,_,h,ha=>by cases h;simpa using ha
 |y::r,k,v,v',h,ha=>by
  unfold lg at h;have e:(x5*16+k+((y::r).length:Int))*7=(x5*16+(k+1)+r.length)*7:=by simp;omega
  rw[e];cases h1:((!(y==0))==decide (x5*16+k<cM))with
  |false=>rw[h1]at h;cases h
  |true=>
   rw[h1,ae]at h;cases h2:(!(y==0))with
   |false=>
    rw[h2]at h h1;have hk: ¬(x5*16+k<cM):=by
     intro hh;rw[aw hh]at h1;cases h1
    refine Rl h0 hc h ⟨?_,ha.2⟩;rw[ha.1];split<;>split<;>omega
   |true=>
    rw[h2,ae]at h;cases h3:nP K y ((x5*16+k)*7) v with
    |none=>rw[h3]at h;cases h
    |some w=>
     rw[h3]at h;have:=Zwj h0 h3 ha;rw[show(x5*16+k)*7+7=(x5*16+(k+1))*7 by omega]at this;exact Rl h0 hc h this
theorem RB {x:ak} (h:Z0 l=some x):x.length=16:=by
 unfold Z0 at h;split at h
 .cases h
 .rename_i k t b _
  cases e:(decide (k=3)&&(decide (t=0)&&ZI (b.drop 32)))with
  |false=>rw[e]at h;cases h
  |true=>
   rw[e]at h;cases e2:Am (dP b 16)with
   |false=>rw[e2]at h;cases h
   |true=>rw[e2]at h;cases h;exact om b 16
theorem ZnM {x:ak} (h:ZX l= .cc x):x.length=16:=by
 unfold ZX at h;split at h
 .cases h
 .split at h
  .cases h
  .split at h
   .rename_i e;cases h;exact RB e
   .split at h
    .cases h
    .split at h<;>cases h
theorem R9 {K:bV} (h0:0<=K.sup.used) {cM:Int} (hc:K.sup.used<=cM*7): ∀ {x:ak} {k:Int} {v v':bj},pG K cM k x v=some v'->sX K v (k*112)->sX K v' ((k+x.length)*112)
 |[],_,_,_,h,ha=>by cases h;simpa using ha
 |y::r,k,v,v',h,ha=>by
  unfold pG at h;have e:(k+((y::r).length:Int))*112=(k+1+r.length)*112:=by simp;omega
  rw[e];cases h1:((!(y==0))==decide (k*16<cM))with
  |false=>rw[h1]at h;cases h
  |true=>
   rw[h1,ae]at h;cases h2:(y==0)with
   |true=>
    rw[h2]at h h1;have hk: ¬(k*16<cM):=by
     intro hh;rw[aw hh]at h1;cases h1
    refine R9 h0 hc h ⟨?_,ha.2⟩;rw[ha.1];split<;>split<;>omega
   |false=>
    rw[h2,af]at h;cases ht:dN K y v with
    |none=>rw[ht]at h;cases h
    |some q=>
     obtain⟨b,v1⟩:=q;rw[ht]at h;obtain⟨g1,_,_,_,_,g2⟩:=sV ht;cases b with
     |leaf x=>cases h
     |node x=>cases h
     |queue x=>cases h
     |dir x=>cases h
     |none=>cases h
     |cc x2=>
      simp only at h;cases h3:lg K cM k 0 x2 v1 with
      |none=>rw[h3]at h;cases h
      |some w=>
       rw[h3]at h;have hb:=ZnM g2.symm;have:=Rl h0 hc h3 (by unfold sX;rw[g1,show(k*16+0)*7=k*112 by omega];exact ha);rw[hb,show(k*16+0+((16:Nat):Int))*7=(k+1)*112 by omega]at this;exact R9 h0 hc h this
theorem Zt9 (h0:0<=u) (h1:u<=1792):u<=Ah u*7:=by
 unfold Ah qa;rw[aw (show u>=0 from h0),aw h1,wE,ae,Zc (x:=u+7),Zc (x:=u+7-1)];obtain⟨k,rfl⟩: ∃k:Nat,u=k:=⟨u.toNat,by omega⟩;rw[show(((k:Nat):Int)+7-1)=((k+6:Nat):Int) by omega,show(((k+6:Nat):Int).tdiv 7)=(((k+6)/7:Nat):Int)from rfl,Zc];omega
theorem Zv1 (h0:0<=K.sup.used) (h1:K.sup.used<=1792) (hv:v.aK=[]) (h:qu K v=some v'):(v'.aK.length:Int)=K.sup.used/\∀x∈v'.aK,ZJ x=true:=by
 unfold qu at h;cases hu:(K.sup.used==0)with
 |true=>
  rw[hu]at h;cases h;rw[hv];exact⟨by have:=eq_of_beq hu;simp;omega,λ_ h=>by cases h⟩
 |false=>
  rw[hu,af]at h;cases ht:dN K K.sup.cc v with
  |none=>rw[ht]at h;cases h
  |some q=>
   obtain⟨b,v1⟩:=q;rw[ht]at h;obtain⟨g1,_,_,_,_,g2⟩:=sV ht;cases b with
   |leaf x=>cases h
   |node x=>cases h
   |queue x=>cases h
   |dir x=>cases h
   |none=>cases h
   |cc x=>
    have:=R9 h0 (Zt9 h0 h1) h (by unfold sX;rw[g1,hv];exact⟨by rw[bw (by omega)];rfl,λ_ h=>by cases h⟩);rw[ZnM g2.symm]at this;have h2:=this.1;refine⟨?_,this.2⟩;rw[h2];split<;>omega
def qm (K:bV):Nat->List Bool->Int->bj->Option (List Bool×bj)
 |0,_,_,_=>none
 |f+1,fl,next,v=>bif next==0 then some (fl,v)else(bif decide (next<=K.sup.used)then
   (match v.aK[(next-1).toNat]? with
   |none=>none
   |some x=>bif (bif (bif !x.live then decide (x.gen<K.sup.g)else false)then !fl.getD (next-1).toNat false else false)then qm K f (fl.set (next-1).toNat true) x.block { v with free:=v.free++[next-1] } else none)
  else none)
def EJ (K:bV) (b:Bool) (x:bA):Bool:=bif (bif x.live then true else x.gen==K.sup.g)then true else b
def vv (K:bV):List Bool->List bA->Bool
 |_,[]=>true
 |fl,x::r=>EJ K (fl.getD 0 false) x&&vv K (fl.drop 1) r
def Cp (K:bV):Option (List Bool×bj)->Option bj
 |none=>none
 |some (fl,v)=>bif vv K fl v.aK then some v else none
def uD (K:bV) (v:bj):Option bj:=Cp K (qm K (K.sup.used.toNat+1) (List.replicate K.sup.used.toNat false) K.sup.free v)
theorem ZuU: ∀ {l:List Bool} {k:Nat},l.getD k true=false->(l.set k true).count false+1=l.count false
 |[],k,h=>by simp at h
 |b::l,0,h=>by
  grind
 |b::l,k+1,h=>by
  grind
theorem ba.cD {a:ai} (h:ba [] s a cs) (hn:0<cs.length): ∃b,a=some (b,0)/\s[b]? =some (some ⟨false,cs⟩):=by
 rcases h.2 with⟨_,rfl⟩|⟨i,rfl,_,h3⟩
 .cases hn
 grind
theorem KG {b:Nat} {l:List bA} {x:bA} {k:Nat} (h:s[b]? =some (some ⟨false,bR l⟩)) (hx:l[k]? =some x) (Kc:ah->M β):bS b (k*3+0) 3 Kc s=Kc (ez x) s:=by
 have hk:k<l.length:=by grind
 rw[fT,kC h (by rw[Zz];omega),K6 hx]
theorem Zx5 {Bd:Zh} (hM:HA Bd) (n:Nat) (i1:Nat) (fl:List Bool) (s0:St) (L0:al) (R:Option bj) (hW:Wk K s v L) (hf:s[i1]? =some (some ⟨false,fl.map .bool⟩)) (hl:fl.length=v.aK.length) (hlen:v.aK.length<2000) (cF:Fx L0 s0 s) (gL:Nw L0 s0 L) (hR:Cp K (some (fl,v))=R) (X:Nat) (hX:X=v.aK.length) (hn:2010<=n):
  Ok (rD K s0 L0 R []) ((bJ (some (K.w,0)) λi3 o2=>
  bG i3 (o2+11) λd2=>
  dE 3 d2 λx2 di=>
  cK (λst=>
   aJ st<|
   ay []) λaI=>
  cY (λaV st=>
   aF .i64 st λx3 st=>
   aJ st<|
   bif decide (x3<(di:Int))then
    bJ x2 λi4 o3=>
    aC (aQ x3 di)<|
    bS i4 (x3.toNat*3+o3) 3 λcs=>
    gW cs λx4 r=>
    aF .i64 r λx5 r=>
    aF .i64 r λ_x6 r=>
    aJ r<|
    cK (λst=>gW st λb1 st=>aJ st<|
     cK (λst=>gW st λb2 st=>aJ st<|
      c9 (run Bd n 225 [.bool b2]) λds=>
      aJ ds<|
      aV [.int .i64 (ar (x3+1))]) λbC=>
     bif b1 then
      bC [.bool true]
     else
      aC (aQ x3 X)<|
      bG i1 (x3.toNat*1) λd3=>
      tj d3 λx7=>
      bC [.bool x7]) λaS=>
    bif x4 then
     aS [.bool true]
    else
     bJ (some (K.w,0)) λi5 o4=>
     bG i5 (o4+4) λd4=>
     cT .i64 d4 λx8=>
     aS [.bool (x5==x8)]
   else
    aI []) n [.int .i64 0]) s):=by
 subst hX;obtain⟨n,rfl⟩: ∃k,n=k+1:=⟨n-1,by omega⟩;obtain⟨z1,p1,z2,p2,z3,p3,z4,p4,hd,hW⟩:=hW;rw[aX,Zo hW.cell rfl];show Ok _ (dE 3 (.slice z1 p1 v.aK.length) _ s);rw[ue 3 z1 p1 _ hW.e1];simp only[Za];refine Zj _ (λq y t=>∃i:Nat,y=[.int .i64 i]/\i<=v.aK.length/\v.aK.length-i<=q/\t=s/\(bif vv K (fl.drop i) (v.aK.drop i)then some v else none)=R) ?_ v.aK.length (n+1) _ _ ⟨0,rfl,cn _,by omega,rfl,hR⟩ (by omega);rintro q _ t ⟨i,rfl,hi,hq,rfl,aN⟩ rec aP;simp only[av,aq];by_cases ax:i<v.aK.length
 .obtain⟨b,rfl,hb⟩:=hW.o1.cD (by rw[Zz];omega)
  have lV:v.aK[i]? =some v.aK[i]:=bU ax;have fH:v.aK.drop i=v.aK[i]::v.aK.drop (i+1):=iI ax;have Fq:fl[i]? =some (fl[i]'(by omega)):=by grind
  rw[aw (show(i:Int)<(v.aK.length:Int) by omega),ae,aX,Zb (Zi ax),bu,KG hb lV];rw[fH]at aN;unfold vv at aN;rw[jX,show(fl.drop i).getD 0 false=fl[i]'(by omega) by rw[dX,tM,fT,Fq];rfl]at aN;generalize v.aK[i]=x at aN;unfold ez;simp only[au,av,aq,aX];have ko:ar ((i:Int)+1)=((i+1:Nat):Int):=Zc;rw[ko];have mV:Ok (rD K s0 L0 R []) (c9 (run Bd (n+1) 225 [.bool (EJ K (fl[i]'(by omega)) x)]) (λds=>aJ ds<|rec [.int .i64 ((i+1:Nat):Int)]) t):=by
   cases h0:EJ K (fl[i]'(by omega)) x with
   |true=>
    rw[h0,de]at aN;rw[sT hM n rfl];simp only[aq];exact aP (v.aK.length-(i+1)) _ _ (by omega) (by grind)
   |false=>
    rw[h0,eG,af]at aN;rw[Z7 hM n rfl,<-aN];exact .mk ⟨t,rfl,cF⟩
  unfold EJ at mV;have C3: ∀Kc:DV->M ah,bG i1 (i*1) Kc t=Kc (.bool (fl[i]'(by omega))) t:=λKc=>Zo hf (by rw[cP,oY,Fq];rfl) Kc
  have tD: ∀Kc:DV->M ah,bG K.w (0+4) Kc t=Kc (.int .i64 K.sup.g) t:=λKc=>Zo hW.cell rfl Kc
  cases fj:x.live with
  |true=>
   grind
  |false=>
   simp only[fj,af]at mV;rw[af,tD];simp only[aY];cases hg:(x.gen==K.sup.g)with
   |true=>
    grind
   |false=>
    simp only[hg,af]at mV;rw[af,Zb (Zi ax),C3];simp only[sP];exact mV
 .rw[aB (show ¬(i:Int)<(v.aK.length:Int) by omega),af]
  rw[Zd];rw[kz (as:=v.aK) (by omega)]at aN;have yV:some v=R:=aN;rw[<-yV];exact .mk ⟨t,L,rfl,hW.wk,cF,gL⟩
theorem Zx0 (n:Nat) (hW:Wk K s v L) (h0:0<=K.sup.used) (h1:K.sup.used<=1792) (xD:0<=K.sup.free) (hs:(v.aK.length:Int)=K.sup.used) (hr: ∀x∈v.aK,ZJ x=true) (hh:v.aU=[]) (ew:v.free=[]) (hn:2100<=n):
  Ok (rD K s L (uD K v) []) (run Bd n 230 [.ptr (some (K.w,0))] s):=by
 obtain⟨n,rfl⟩: ∃k,n=k+2:=⟨n-2,by omega⟩;rw[Ze,h.acA];unfold OD jn Zm Q_ cI N_ qo az C_ ql Lb Li bD uD;simp only[gj,aq];rw[aX];obtain⟨z1,p1,z2,p2,z3,p3,z4,p4,hd,hW⟩:=hW;rw[Zo hW.cell rfl];simp only[aY];rw[Zb (by rw[aR,aR,bq,bq,bq];omega),Zy,Ey];have y6:=aD.new s (some (⟨false,List.replicate K.sup.used.toNat (.bool false)⟩:bT));have X4:(s++[some (⟨false,List.replicate K.sup.used.toNat (.bool false)⟩:bT)])[s.length]? =some (some ⟨false,(List.replicate K.sup.used.toNat false).map .bool⟩):=by simp
 have sc:=hW.pre y6;have XW:=sc.cell;generalize s++[some (⟨false,List.replicate K.sup.used.toNat (.bool false)⟩:bT)]=s0 at y6 X4 sc XW;rw[aX,Zo XW rfl];simp only[aY];rw[Za];obtain⟨R,hR⟩: ∃R,Cp K (qm K (K.sup.used.toNat+1) (List.replicate K.sup.used.toNat false) K.sup.free v)=R:=⟨_,rfl⟩;rw[hR];have hX:K.sup.used.toNat=v.aK.length:=by omega
 have If:s.length∉L:=λhm=>by have:=hW.lt _ hm;omega
 refine Zj _ (λq y t=>∃(f:Nat) (fl:List Bool) (next:Int) (u:bj) (Lu:al),y=[.int .i64 next]/\0<=next/\fl.length=v.aK.length/\fl.count false<=q/\fl.count false<f/\Wk K t u Lu/\u.aK=v.aK/\u.aU=[]/\u.free.length+fl.count false<=v.aK.length/\t[s.length]? =some (some ⟨false,fl.map .bool⟩)/\s.length∉Lu/\Fx L s t/\Nw L s Lu/\Cp K (qm K f fl next u)=R) ?_ v.aK.length (n+1) _ _ ⟨K.sup.used.toNat+1,_,K.sup.free,v,L,rfl,xD,by simp[hX],by simp[hX],by simp,sc.wk,rfl,hh,by simp[ew,hX],X4,If,Fx.pre L y6,.refl L s,hR⟩ (by omega);rintro q _ t ⟨f,fl,next,u,Lu,rfl,FC,eu,hcq,uH,dQ,lu,tF,huf,vN,hiL,cF,gL,aN⟩ rec aP;simp only[av,aq];obtain⟨f,rfl⟩: ∃k,f=k+1:=⟨f-1,by omega⟩;unfold qm at aN;cases hz:(next==0)with
 |true=>
  rw[hz,ae]at aN;rw[bm,af];exact Zx5 h (n+1) s.length fl s L R dQ vN (by rw[lu];exact eu) (by rw[lu];omega) cF gL aN K.sup.used.toNat (by rw[lu];exact hX) (by omega)
 |false=>
  rw[hz,af]at aN;rw[bp,ae];have C6:next≠0:=by grind
  obtain⟨z1,p1,z2,p2,z3,p3,z4,p4,hd,dQ⟩:=dQ;rw[aX,Zo dQ.cell rfl];simp only[aY];cases hle:decide (next<=K.sup.used)with
  |false=>
   rw[hle,af]at aN;rw[Z7 h n rfl];have yV:none=R:=aN;rw[<-yV];exact .mk ⟨t,rfl,cF⟩
  |true=>
   have ahr:=iR hle;rw[hle,ae]at aN;rw[sT h n rfl];simp only[aq];obtain⟨k,hk⟩: ∃k:Nat,next-1=k:=⟨(next-1).toNat,by omega⟩;have gA:k<u.aK.length:=by rw[lu];omega
   have cG:ar (next-1)=(k:Int):=by rw[Zc,hk]
   rw[hk,bu]at aN;simp only[cG,bu];rw[aX,Zo dQ.cell rfl];show Ok _ (dE 3 (.slice z1 p1 u.aK.length) _ t);rw[ue 3 z1 p1 _ dQ.e1];obtain⟨b,rfl,hb⟩:=dQ.o1.cD (by rw[Zz];omega);have lV:u.aK[k]? =some u.aK[k]:=bU gA;have Bp:=hr u.aK[k] (by rw[<-lu];grind);rw[aX,Zb (Zi gA),KG hb lV];rw[lV]at aN;simp only at aN;generalize u.aK[k]=x at aN Bp;unfold ez;simp only[au,av,aq,Za,aX];have U6:fl[k]? =some (fl[k]'(by omega)):=by grind
   rw[show fl.getD k false=fl[k]'(by omega) by rw[dX,U6];rfl]at aN;have tD: ∀Kc:DV->M ah,bG K.w (0+4) Kc t=Kc (.int .i64 K.sup.g) t:=λKc=>Zo dQ.cell rfl Kc
   have C3: ∀Kc:DV->M ah,bG s.length (k*1) Kc t=Kc (.bool (fl[k]'(by omega))) t:=λKc=>Zo vN (by rw[cP,oY,U6];rfl) Kc
   cases fj:x.live with
   |true=>
    simp only[fj,bm,af]at aN;rw[bm,af];simp only[af];rw[Z7 h n rfl];have yV:none=R:=aN;rw[<-yV];exact .mk ⟨t,rfl,cF⟩
   |false=>
    simp only[fj,bp,ae]at aN;rw[bp,ae,tD];simp only[aY];cases hg:decide (x.gen<K.sup.g)with
    |false=>
     simp only[hg,af]at aN;simp only[af];rw[Z7 h n rfl];have yV:none=R:=aN;rw[<-yV];exact .mk ⟨t,rfl,cF⟩
    |true=>
     simp only[hg,ae]at aN;simp only[ae];rw[hX,<-lu,Zb (Zi gA),C3];simp only[sP];cases U7:fl[k]'(by omega)with
     |true=>
      simp only[U7,bm,af]at aN;rw[bm,Z7 h n rfl];have yV:none=R:=aN;rw[<-yV];exact .mk ⟨t,rfl,cF⟩
     |false=>
      simp only[U7,bp,ae]at aN;rw[bp,sT h n rfl];simp only[aq];rw[Zb (Zi gA),vu vN (by simp;omega)];have db:(fl.map DV.bool).set (k*1) (.bool true)=(fl.set k true).map DV.bool:=by rw[cP,DJ]
      rw[db];have Va:=Fx.set t s.length (some (⟨false,(fl.set k true).map DV.bool⟩:bT));have aeW:lI [s.length] K.a:=λb o e hm=>by
       have ax:=Sl.lt (e▸hW.img);rw[cj.1 hm]at ax;omega
      have My:=dQ.jB Va (by grind) aeW (by
       have:=dQ.aU;rw[tF]at this⊢;exact this)
      have X6:(t.set s.length (some (⟨false,(fl.set k true).map DV.bool⟩:bT)))[s.length]? =some (some ⟨false,(fl.set k true).map .bool⟩):=by grind
      have Vb:Fx L s (t.set s.length (some (⟨false,(fl.set k true).map DV.bool⟩:bT))):=cF.step Va λy hy=> .inr (by rw[cj.1 hy];exact aL _)
      generalize t.set s.length (some (⟨false,(fl.set k true).map DV.bool⟩:bT))=t1 at Va My X6 Vb;rw[Zo My.cell rfl];show Ok _ (dE 1 (.slice z4 p4 u.free.length) _ t1);rw[ue 1 z4 p4 _ My.e4];have mq:=ZuU (l:=fl) (k:=k) (by rw[dX,U6,U7];rfl);obtain⟨b2,t2,t3,L3,g1,g2,g3,g4,g5,g6⟩:=My.ago (β:=ah) (k:Int) (by omega);have ahD:s.length<t1.length:=by grind
      refine Eq.mpr (congrArg (Ok _) (g1 _)) ?_;refine Eq.mpr (congrArg (Ok _) (g2 _)) ?_;have hblk:0<=x.block:=by
       unfold ZJ at Bp;rw[fj,af,aR,aR]at Bp;have h2:=Bp.2.1;unfold lh at h2;by_cases AR:x.block>=0
       .exact AR
       grind
      refine aP ((fl.set k true).count false) _ _ (by omega) ⟨f,fl.set k true,x.block,_,L3,rfl,hblk,by simpa using eu,aL _,by omega,g3.wk,lu,tF,by simp;omega,?_,?_,Vb.step g4 gL,gL.trans Vb.1 g5,aN⟩
      .refine g4.2 _ _ hiL X6
      .intro hm
       rcases g5 _ hm with e|e
       .exact hiL e
       .omega
def uV (v:bj):bj:= { v with aH:=v.aH++v.aK.map (·.gen) }
def Dr (v:bj):Nat:=(v.aK.filter (·.live)).length
theorem ZxT (n:Nat) (hW:Wk K s v L) (hl:v.aK.length<2000) (hg:v.aH.length<100000) (hn:2010<=n):
  Ok (λo=>∃s' L',o=(.val [.int .i64 (Dr v:Nat)],s')/\Wk K s' (uV v) L'/\Fx L s s'/\Nw L s L') (run Bd n 234 [.ptr (some (K.w,0))] s):=by
 obtain⟨n,rfl⟩: ∃k,n=k+1:=⟨n-1,by omega⟩;rw[Ze,h.acE];unfold OQ jn oj gP N_ qo Li bD fV;simp only[gj,aq,aX,Za];obtain⟨z1,p1,z2,p2,z3,p3,z4,p4,hd,hW⟩:=hW;rw[Zo hW.cell rfl];show Ok _ (dE 3 (.slice z1 p1 v.aK.length) _ s);rw[ue 3 z1 p1 _ hW.e1];refine Zj _ (λq y t=>∃(i:Nat) (z3:Nat) (p3:ai) (Lu:al),y=[.int .i64 (((v.aK.take i).filter (·.live)).length:Nat),.int .i64 i]/\i<=v.aK.length/\v.aK.length-i<=q/\ec K t { v with aH:=v.aH++(v.aK.take i).map (·.gen) } Lu z1 p1 z2 p2 z3 p3 z4 p4 hd/\Fx L s t/\Nw L s Lu) ?_ v.aK.length n _ _ ⟨0,z3,p3,L,rfl,cn _,by omega,by simpa using hW,.refl L s,.refl L s⟩ (by omega);rintro q _ t ⟨i,z3,p3,Lu,rfl,hi,hq,dQ,fw,jA⟩ rec aP;simp only[av,aq];by_cases ax:i<v.aK.length
 .obtain⟨b,rfl,hb⟩:=dQ.o1.cD (by rw[Zz];exact Nat.mul_pos (by show 0<v.aK.length;omega) (by omega))
  have lV:v.aK[i]? =some v.aK[i]:=bU ax;have fJ:v.aK.take (i+1)=v.aK.take i++[v.aK[i]]:=kS ax;rw[aw (show(i:Int)<(v.aK.length:Int) by omega),ae,aX,Zb (Zi ax),bu,KG hb lV];generalize v.aK[i]=x at fJ;unfold ez;simp only[au,av,aq];rw[Zo dQ.cell rfl];show Ok _ (dE 1 (.slice z3 p3 (v.aH++(v.aK.take i).map (·.gen)).length) _ t);rw[ue 1 z3 p3 _ dQ.e3];have lR:(v.aH++(v.aK.take i).map (·.gen)).length<1000000:=by
   rw[bz,nY,cz];omega
  obtain⟨b2,t2,t3,L3,g1,g2,g3,g4,g5,g6⟩:=dQ.agp (β:=ah) x.gen lR;refine Eq.mpr (congrArg (Ok _) (g1 _)) ?_;refine Eq.mpr (congrArg (Ok _) (g2 _)) ?_;have ko:ar ((i:Int)+1)=((i+1:Nat):Int):=Zc;have eu:((v.aK.take i).filter (·.live)).length<=i:=gH (List.length_filter_le _ _) (by rw[cz];omega);have qS:ar (((((v.aK.take i).filter (·.live)).length:Nat):Int)+1)=((((v.aK.take i).filter (·.live)).length+1:Nat):Int):=Zc;rw[ko,qS];have vQ:ec K t3 { v with aH:=v.aH++(v.aK.take (i+1)).map (·.gen) } L3 z1 (some (b,0)) z2 p2 1 (some (b2,0)) z4 p4 hd:=by
   rw[fJ,fg,<-fD];exact g3
  cases fj:x.live with
  |true=>
   rw[ae];exact aP (v.aK.length-(i+1)) _ _ (by omega) ⟨i+1,1,some (b2,0),L3,by rw[fJ,Ga];simp[fj],by omega,aL _,vQ,fw.step g4 jA,jA.trans fw.1 g5⟩
  |false=>
   rw[af];exact aP (v.aK.length-(i+1)) _ _ (by omega) ⟨i+1,1,some (b2,0),L3,by rw[fJ,Ga];simp[fj],by omega,aL _,vQ,fw.step g4 jA,jA.trans fw.1 g5⟩
 .rw[aB (show ¬(i:Int)<(v.aK.length:Int) by omega),af]
  simp only[Zd];rw[dq (by omega)]at dQ⊢;exact .mk ⟨t,Lu,rfl,dQ.wk,fw,jA⟩
end Go.Gv.F
