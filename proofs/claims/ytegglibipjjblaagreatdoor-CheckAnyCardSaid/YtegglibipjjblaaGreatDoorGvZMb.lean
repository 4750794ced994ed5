/- A block of an image, taken once: the walker's first steps. -/
import Derived.Test.YtegglibipjjblaaGreatDoorGvZMa
set_option linter.all false
namespace Go.Gv.F
open Go.Gv
variable {β:Type}
variable {k slot u:Int} {i j lim m n sz z:Nat} {s s':St} {α:Type} {cs:ah} {l:aj} {A C L L' L'' T W W':al}
def Zx2 {m:M α} {K:α->M β} (h:m s=some (.fp,s')):cQ m K s=some (.fp,s'):=by unfold cQ;rw[h]
def Ok.wv {P:Out α×St->Prop} {Q:Out β×St->Prop} {m:M α} {K:α->M β} (h:Ok P (m s))
  (k1: ∀s',P (.fp,s')->Q (.fp,s')) (k2: ∀ds s',P (.val ds,s')->Ok Q (K ds s')):Ok Q (cQ m K s):=by
 obtain⟨⟨o,s'⟩,e,hp⟩:=h;unfold cQ;rw[e];cases o with
 |val ds=>exact k2 ds s' hp
 |fp=>exact .mk (k1 s' hp)
def Lv (p:ai) (K:ai->M β):BS (.ptr p) K=K p:=rfl
def ZxH (s:St):Z1 s.length s=s:=by unfold Z1;simp
variable {Bd:Zh} [h:HA Bd]
def ZuQ (n:Nat) (b:Bool) (st:St):run Bd (n+1) 225 [.bool b] st=some (bif b then(.val [],st)else(.fp,st)):=by
 rw[Ze,h.aeT];unfold SP jg Q_;simp only[au,aq,Za];cases b<;>rfl
def tr {Bd:Zh} (h:HA Bd) (n:Nat) {b:Bool} (hb:b=true) (st:St) (K:ah->M β):cQ (run Bd (n+1) 225 [.bool b]) K st=K [] st:=by
 rw[hb];exact Zk (ZuQ n true st)
def oN {Bd:Zh} (h:HA Bd) (n:Nat) {b:Bool} (hb:b=false) (st:St) (K:ah->M β):cQ (run Bd (n+1) 225 [.bool b]) K st=some (.fp,st):=by
 rw[hb];exact Zx2 (ZuQ n false st)
def ZG (img:aj) (k:Nat):aj:=(img.drop (k*64)).take 64
def Zmb (n:Nat) (a:ai) (len k:Nat) (st:St) (hl:len<1000000) (hk:(k+1)*64<=len:=by omega):
  run Bd (n+1) 203 [.slice 1 a len,.int .i64 k] st=some (.val [.slice 1 (cU true a (k*64)) 64],st):=by
 rw[Ze,h.aeA];unfold Tg oe aZ;simp only[aX,av,aq];rw[ZL];have h1:ar ((k:Int)+1)=((k+1:Nat):Int):=Zc;have h2:ar (((k+1:Nat):Int)*64)=(((k+1)*64:Nat):Int):=by rw[Zc];omega
 have h3:ar ((k:Int)*64)=((k*64:Nat):Int):=by rw[Zc];omega
 simp only[h1,h2,h3,bp,cR];rw[Zb (by rw[aY,bu,bu];omega),Zb (by rw[aY,bu,bu];omega),Zp,ZxH,show(k+1)*64-k*64=64 by omega]
inductive xr where
 |node (x:jK)
 |leaf (x:List bw)
 |cc (x:ak)
 |queue (x:ZH)
 |dir (x:ak)
 |none
def ZY (l:aj):xr:=
 match iY l with
 |some x=> .node x
 |none=>match ZM l with
  |some x=> .leaf x
  |none=>match iM l with
   |some x=> .cc x
   |none=>match ZJ l with
    |some x=> .queue x
    |none=>match lh l with
     |some x=> .dir x
     |none=> .none
def PT (s:St):xr->DV->Prop
 | .node x,d=>∃p,d= .iface 6 (.agg (oA x 1 p))/\Fz s p (ints x.kids)/\oR x=true/\x.kids.length<=12
 | .leaf x,d=>d= .iface 5 (.agg (bT x))/\x.length=7
 | .cc x,d=>d= .iface 2 (.agg (ints x))/\x.length=16
 | .queue x,d=>d= .iface 4 (.agg (Z0 x))/\x.dz.length=12
 | .dir x,d=>∃p,d= .iface 3 (.agg [.slice 1 p x.length])/\Fz s p (ints x)/\x.length<=16
 | .none,d=>d= .nilIface
def Ic {x:List bw} (h:ZM l=some x):x.length=7:=by
 unfold ZM at h;split at h
 .cases h
 .rename_i k t b _
  cases e:(decide (k=2)&&decide (t<128))with
  |false=>rw[e]at h;cases h
  |true=>
   rw[e]at h;cases e2:(ZR b t 7).all ZK with
   |false=>rw[e2]at h;cases h
   |true=>rw[e2]at h;cases h;exact Bz b t 7
def ZrB (n:Nat) (a:ai) (l:aj) (st:St) (ha:dc st a l) (hl:l.length<1000000) (hn:161<=n):
  Ok (λo=>∃d s',o=(.val [d],s')/\aB st s'/\PT s' (ZY l) d) (run Bd n 256 [.slice 1 a l.length] st):=by
 obtain⟨n,rfl⟩: ∃m,n=m+1:=⟨n-1,by omega⟩;rw[Ze,h.afn];unfold Th bV Fp jg aZ ZY;simp only[aX,aq];refine Ok.call (Zt6 n a l st ha hl (by omega)) ?_;rintro _ ⟨s1,aH,rp⟩;cases oq:iY l with
 |some x=>
  rw[oq]at rp;obtain⟨p,rfl,hf⟩:=rp;refine⟨_,s1,rfl,?_⟩;unfold oA fk;simp only[nP,jG,cT,av,aX,au,aq,ae,Zd];exact .mk ⟨_,s1,rfl,aH,p,rfl,hf,(Mx oq).1,(Mx oq).2⟩
 |none=>
 rw[oq]at rp;subst rp;refine⟨_,s1,rfl,?_⟩;simp only[cT,av,au,aq,Zg 1 0 none _ (.inr rfl),af];have tQ:=ha.mono aH;refine Ok.call (Zph n a l s1 tQ hl (by omega)) ?_;rintro _ ⟨s2,aU,du⟩;cases p7:ZM l with
 |some x=>
  rw[p7]at du;subst du;refine⟨_,s2,rfl,?_⟩;have hlen:(bT x).length=21:=by rw[ZB,Ic p7]
  simp only[cT,au,aq,ae];rw[bI hlen,bI hlen,Zd];exact .mk ⟨_,s2,rfl,aH.trans aU,rfl,Ic p7⟩
 |none=>
 rw[p7]at du;subst du;refine⟨_,s2,rfl,?_⟩;simp only[cT,au,aq,af];rw[bI (cs:=bT nG) (n:=21) rfl,bI (cs:=bT nG) (n:=21) rfl];have Ar:=tQ.mono aU;refine Ok.call (Zqg n a l s2 Ar hl (by omega)) ?_;rintro _ ⟨s3,cu,nD⟩;cases JG:iM l with
 |some x=>
  rw[JG]at nD;obtain⟨rfl,hx⟩:=nD;refine⟨_,s3,rfl,?_⟩;have hlen:(ints x).length=16:=by simp[ints,hx]
  simp only[cT,au,aq,ae];rw[bI hlen,bI hlen,Zd];exact .mk ⟨_,s3,rfl,(aH.trans aU).trans cu,rfl,hx⟩
 |none=>
 rw[JG]at nD;subst nD;refine⟨_,s3,rfl,?_⟩;simp only[cT,au,aq,af];rw[bI (cs:=ints (List.replicate 16 0)) (n:=16) rfl,bI (cs:=ints (List.replicate 16 0)) (n:=16) rfl];have ha3:=Ar.mono cu;refine Ok.call (Zng n a l s3 ha3 hl (by omega)) ?_;rintro _ ⟨s4,fw,sJ⟩;cases hg4:ZJ l with
 |some x=>
  rw[hg4]at sJ;obtain⟨rfl,hx⟩:=sJ;refine⟨_,s4,rfl,?_⟩;have hlen:(ints x.dz).length=12:=by simp[ints,hx]
  unfold Z0;simp only[cT,bR,av,au,aq,ae];rw[bI hlen,bI (by simp[hlen]),Zd];exact .mk ⟨_,s4,rfl,((aH.trans aU).trans cu).trans fw,rfl,hx⟩
 |none=>
 rw[hg4]at sJ;subst sJ;refine⟨_,s4,rfl,?_⟩;unfold Z0;simp only[cT,bR,av,au,aq,af];rw[bI (cs:=ints DL.dz) (n:=12) rfl,bI (n:=14) rfl];have ha4:=ha3.mono fw;refine Ok.call (Zoo n a l s4 ha4 hl (by omega)) ?_;rintro _ ⟨s5,jY,qb⟩;cases hg5:lh l with
 |some x=>
  rw[hg5]at qb;obtain⟨p,rfl,hf,hx⟩:=qb;refine⟨_,s5,rfl,?_⟩;simp only[cT,aX,au,aq,ae,Zd];exact .mk ⟨_,s5,rfl,(((aH.trans aU).trans cu).trans fw).trans jY,p,rfl,hf,hx⟩
 |none=>
 rw[hg5]at qb;subst qb;refine⟨_,s5,rfl,?_⟩;simp only[cT,Zg 1 0 none _ (.inr rfl),au,aq,af,Zd];exact .mk ⟨_,s5,rfl,(((aH.trans aU).trans cu).trans fw).trans jY,rfl⟩
def fO (m:Nat) (W:al) (k:Int):Bool:=decide (k>=2)&&(fE m k&& !di W k.toNat)
def Zza {Bd:Zh} (h:HA Bd) (n w:Nat) (a:ai) (img:aj) (k:Int) (st:St)
  (hw:st[w]? =some (some ⟨false,cs⟩)) (h0:cs[0]? =some (.slice 1 a img.length)) (h2:cs[2]? =some (.int .i64 m)) (NT:cs[10]? =some (.ptr (some (i,0))))
  (hs:gy st false i j m W) (mm:i≠j) (hjw:w≠j) (ha:dc st a img) (El:lG [j] a) (hm:m*64<=img.length) (hl:img.length<1000000) (hn:170<=n):
  Ok (λo=>bif fO m W k then ∃d s',o=(.val [d],s')/\Fx [j] st s'/\gy s' false i j m (bK m W k)/\PT s' (ZY (ZG img k.toNat)) d else o=(.fp,st)) (run Bd n 228 [.ptr (some (w,0)),.int .i64 k] st):=by
 obtain⟨n,rfl⟩: ∃k,n=k+4:=⟨n-4,by omega⟩;rw[Ze,h.aeW];unfold Qv pO aA C_ iL uA bq Zm Lb Li dY aZ ix fO;simp only[eH,av,aq,Za,bd];by_cases jn:k>=2;rotate_left
 .rw[aF jn,af]
  simp only[au,aq,af,gf];rw[oN h (n+2) rfl];exact .mk rfl
 rw[ax jn,ae,Zo hw h2];simp only[bg,au,aq,dF];have abG:fE m k=decide (k<(m:Int)):=by grind[fE]
 rw[abG];by_cases vt:k<(m:Int);rotate_left
 .rw[aF vt,af]
  simp only[gf,af];rw[oN h (n+2) rfl];exact .mk rfl
 rw[ax vt,ae,Zo hw NT];simp only[Lv,dF];rw[Zk (ZnE (n+1) k st hs),abG,ax vt,dF];simp only[au,aq];cases gM:di W k.toNat with
 |true=>
  simp only[br,af];rw[oN h (n+2) rfl];exact .mk rfl
 |false=>
  simp only[bn,ae];rw[tr h (n+2) rfl];simp only[aq];rw[Zo hw NT];simp only[Lv];rw[Zz];have aH:=aB.new st (some (⟨false,[DV.int .i64 k]⟩:bO));have eX:Sl (st++[some (⟨false,[DV.int .i64 k]⟩:bO)]) (some (st.length,0)) (ints [k]):=Nn st [DV.int .i64 k];have dA:lG [j] (some (st.length,0)):=by
   intro b o e hb;cases e;have:=(ef.1 hs.wd).1;rw[cB.1 hb]at this;omega
  generalize st++[some (⟨false,[DV.int .i64 k]⟩:bO)]=s1 at aH eX;have kN:=hs.pre aH;have aa7:=Ia (n+3) [k] (some (st.length,0)) s1 kN mm eX dA (by simp) (by simp;omega);rw[show[k].length=1 from rfl]at aa7;rw[Zk aa7];simp only[aq];have ab1:=kN.add mm (bK m W k) (oM _ _ _) (VQ kN.lt);have cL:Fx [j] st (s1.set j (some ⟨false,Zv (bK m W k)⟩)):=(Fx.pre [j] aH).trans (Fx.set s1 j _);have e1:[k].foldl (bK m) W=bK m W k:=rfl;rw[e1];generalize s1.set j (some ⟨false,Zv (bK m W k)⟩)=s2 at ab1 cL;have fR:=cL.2 w _ (by simpa using hjw) hw;have Ar:dc s2 a img:=Sl.fx ha cL El;rw[Zo fR h0];simp only[j9];obtain⟨kk,rfl⟩: ∃kk:Nat,k=kk:=⟨k.toNat,by omega⟩;rw[Zk (Zmb (n+2) a img.length kk s2 hl)];simp only[aX,aq];have Ef:dc s2 (cU true a (kk*64)) (ZG img kk):=(Ar.cU (k:=kk*64) (by omega)).lA 64;have Ol:(ZG img kk).length=64:=by unfold ZG;rw[cX,fa];omega
  have hb:=ZrB (n+3) _ (ZG img kk) s2 Ef (by omega) (by omega);rw[Ol]at hb;refine Ok.call hb ?_;rintro _ ⟨d,s3,rfl,cu,hblk⟩;refine⟨_,s3,rfl,?_⟩;simp only[Dd,aq,Zd];exact .mk ⟨d,s3,rfl,cL.trans (Fx.pre [j] cu),ab1.pre cu,hblk⟩
structure cy where
 seq:Int
 blocks:Int
 de:Int
 g:Int
 cc:Int
 used:Int
 free:Int
 dir:Int
 aJ:ak
structure aS where
 W:al
 aG:List bw
 aM:List dO
 aK:ak
 free:ak
 nodes:Int
structure bL where
 w:Nat
 i:Nat
 j:Nat
 m:Nat
 a:ai
 img:aj
 sup:cy
 pc:ai
def dM (z:Nat) (p:ai) (n:Nat):DV:= .slice z p n
def rL (K:bL) (v:aS) (c11 c15 c16 c17:DV):ah:=
 [.slice 1 K.a K.img.length,.int .i64 K.sup.seq,.int .i64 K.sup.blocks,.int .i64 K.sup.de,.int .i64 K.sup.g,.int .i64 K.sup.cc,.int .i64 K.sup.used,.int .i64 K.sup.free,.int .i64 K.sup.dir,.slice 1 K.pc K.sup.aJ.length,
  .ptr (some (K.i,0)),c11,.int .i64 K.sup.blocks,.int .i64 K.sup.de,.int .i64 K.sup.g,c15,c16,c17,.int .i64 v.nodes]
def aO:ai->al
 |none=>[]
 |some (b,_)=>[b]
def lG.aO {L:al} {a:ai} (h: ∀b∈aO a,b∉L):lG L a:=by
 intro b o e;grind[F.aO]
def bm.fx {a:ai} (h:bm [] s a cs) (k:Fx T s s') (n: ∀b∈aO a,b∉T):bm [] s' a cs:=by
 refine⟨⟨s',rfl⟩,?_⟩;rcases h.2 with h1|⟨i,rfl,h2,h3⟩
 .exact .inl h1
 .exact .inr ⟨i,rfl,h2,k.2 i _ (n i (by simp[aO])) h3⟩
def bm.Ga {a:ai} (h:bm [] s a cs): ∀b∈aO a,b<s.length:=by
 rcases h.2 with⟨rfl,_⟩|⟨i,rfl,_,h3⟩
 .intro b hb;cases hb
 .intro b hb;rw[cB.1 hb];grind
def zP {a:ai} (h:bm [] s a cs) (ds:ah) (hz:0<sz) (hn:cs.length=n*sz) (hd:ds.length=sz) (hl:n+1<=lim:=by omega):
  ∃b s',s.length<=b/\bm [] s' (some (b,0)) (cs++ds)/\Fx (aO a) s s'/\∀K:ai->M β,(cd ds λi=>bS i 0 sz λcs'=>cm sz a n cs' 1 lim K) s=K (some (b,0)) s':=by
 obtain⟨b,s',h1,h2,_,h4,h5⟩:=h.Po (β:=β) ds hz hn hd hl;refine⟨b,s',h1,h2,⟨?_,λi x hi e=>h4 i x e ?_⟩,h5⟩
 .have:=bm.Ga h2 b (by simp[aO]);omega
 grind[aO]
def qB (s:St) (L:al):ah->List dO->Prop
 |ds,[]=>ds=[]
 |ds,x::r=>∃z p t,(z=4\/p=none)/\ds=mj x z p++t/\Sl s p (bY x.cj)/\lG L p/\qB s L t r
def qB.fx {s s':St} {L L':al} (k:Fx L s s') (hL: ∀x∈L',x∈L\/s.length<=x): ∀ {ds:ah} {xs:List dO},qB s L ds xs->qB s' L' ds xs
 |_,[],h=>h
 |_,_::_,⟨z,p,t,hz,h1,h2,h3,h4⟩=>⟨z,p,t,hz,h1,h2.fx k h3,h3.new h2 hL,h4.fx k hL⟩
def qB.aM {s:St} {L:al} : ∀ {ds:ah} {xs:List dO},qB s L ds xs->kA s ds xs
 |_,[],h=>h
 |_,_::_,⟨z,p,t,hz,h1,h2,_,h4⟩=>⟨z,p,t,hz,h1,h2,h4.aM⟩
def qB.push {s:St} {L:al} {x:dO} {z:Nat} {p:ai} (hz:z=4\/p=none) (hs:Sl s p (bY x.cj)) (ho:lG L p): ∀ {ds:ah} {xs:List dO},qB s L ds xs->qB s L (ds++mj x z p) (xs++[x])
 |ds,[],h=>⟨z,p,[],hz,by rw[show ds=[]from h];rfl,hs,ho,rfl⟩
 |_,_::_,⟨z',p',t,CC,h1,h2,h3,h4⟩=>⟨z',p',t++mj x z p,CC,by rw[h1,fI],h2,h3,h4.push hz hs ho⟩
structure eD (K:bL) (s:St) (v:aS) (L:List Nat) (z1:Nat) (p1:Option (Nat×Nat)) (z2:Nat) (p2:Option (Nat×Nat)) (z3:Nat) (p3:Option (Nat×Nat)) (z4:Nat) (p4:Option (Nat×Nat)) (hd:List DV):Prop where
 cell:s[K.w]? =some (some ⟨false,rL K v (dM z1 p1 v.aG.length) (dM z2 p2 v.aM.length) (dM z3 p3 v.aK.length) (dM z4 p4 v.free.length)⟩)
 e1:z1=3\/p1=none
 e2:z2=2\/p2=none
 e3:z3=1\/p3=none
 e4:z4=1\/p4=none
 o1:bm [] s p1 (bT v.aG)
 o2:bm [] s p2 hd
 o3:bm [] s p3 (ints v.aK)
 o4:bm [] s p4 (ints v.free)
 aM:qB s L hd v.aM
 set:gy s false K.i K.j K.m v.W
 img:dc s K.a K.img
 off:lG L K.a
 own:L=K.w::K.i::K.j::(aO p1++(aO p2++(aO p3++aO p4)))
 nodup:L.Nodup
def Wk (K:bL) (s:St) (v:aS) (L:al):Prop:=∃z1 p1 z2 p2 z3 p3 z4 p4 hd,eD K s v L z1 p1 z2 p2 z3 p3 z4 p4 hd
def Nw (L:al) (s:St) (L':al):Prop:=∀x∈L',x∈L\/s.length<=x
def Nw.refl (L:al) (s:St):Nw L s L:=λ_ h=> .inl h
def Nw.trans (h:Nw L s L') (hs:s.length<=s'.length) (k:Nw L' s' L''):Nw L s L'':=λx hx=>by
 rcases k x hx with h1|h1
 .exact h x h1
 omega
def Mk {B:al} {b:Nat} (h:(A++(B++C)).Nodup) (hl: ∀x∈A++(B++C),x<n) (hb:n<=b):(A++([b]++C)).Nodup:=by
 rw[rO]at h⊢;obtain⟨h1,h2,h3⟩:=h;rw[rO]at h2;obtain⟨_,h4,_⟩:=h2;refine⟨h1,?_,?_⟩
 .rw[List.singleton_append,zu]
  refine⟨λhm=>?_,h4⟩;have:=hl b (by simp[hm]);omega
 .intro x hx y hy
  rcases gx.1 hy with hy|hy
  .rw[cB.1 hy]
   have:=hl x (by simp[hx]);omega
  grind
variable {K:bL} {s:St} {v:aS} {L:al} {z1 z2 z3 z4:Nat} {p1 p2 p3 p4:ai} {hd:ah}
def eD.lt (h:eD K s v L z1 p1 z2 p2 z3 p3 z4 p4 hd): ∀x∈L,x<s.length:=by
 intro x hx;rw[h.own]at hx;simp only[eF,gx]at hx;rcases hx with rfl|rfl|rfl|hx|hx|hx|hx
 .exact(ef.1 h.cell).1
 .exact(ef.1 h.set.hd).1
 .exact(ef.1 h.set.wd).1
 .exact bm.Ga h.o1 x hx
 .exact bm.Ga h.o2 x hx
 .exact bm.Ga h.o3 x hx
 .exact bm.Ga h.o4 x hx
def eD.EH (h:eD K s v L z1 p1 z2 p2 z3 p3 z4 p4 hd):K.w∈L:=by rw[h.own];simp
def eD.w5 (h:eD K s v L z1 p1 z2 p2 z3 p3 z4 p4 hd):K.j∈L:=by rw[h.own];simp
def eD.ne (h:eD K s v L z1 p1 z2 p2 z3 p3 z4 p4 hd):K.w≠K.i/\K.w≠K.j/\K.i≠K.j/\(∀x∈aO p1++(aO p2++(aO p3++aO p4)),x≠K.w/\x≠K.i/\x≠K.j):=by
 have hn:=h.nodup;rw[h.own]at hn;simp only[zu,eF,not_or]at hn;grind
def eD.j5 (h:eD K s v L z1 p1 z2 p2 z3 p3 z4 p4 hd) (k:Fx T s s') (hT: ∀x∈T,x∉L) (ha:lG T K.a) (hh:qB s' L hd v.aM):eD K s' v L z1 p1 z2 p2 z3 p3 z4 p4 hd:=by
 have hm: ∀x∈L,x∉T:=λx hx Ex=>hT x Ex hx
 have ho:=h.own;refine⟨k.2 _ _ (hm _ h.EH) h.cell,h.e1,h.e2,h.e3,h.e4,h.o1.fx k λb hb=>hm b ?_,h.o2.fx k λb hb=>hm b ?_,h.o3.fx k λb hb=>hm b ?_,h.o4.fx k λb hb=>hm b ?_,hh,h.set.fx k (hm _ (by rw[ho];simp)) (hm _ h.w5),Sl.fx h.img k ha,h.off,ho,h.nodup⟩
 all_goals rw[ho];simp[hb]
def eD.pre {s':St} (h:eD K s v L z1 p1 z2 p2 z3 p3 z4 p4 hd) (k:aB s s'):eD K s' v L z1 p1 z2 p2 z3 p3 z4 p4 hd:=
 h.j5 (Fx.pre [] k) (λ_ h=>by cases h) (λ_ _ _ h=>by cases h) (h.aM.fx (Fx.pre L k) (Nw.refl L s))
def eD.ajn (h:eD K s v L z1 p1 z2 p2 z3 p3 z4 p4 hd) (k:Fx [K.j] s s') (hs:gy s' false K.i K.j K.m W'):eD K s' { v with W:=W' } L z1 p1 z2 p2 z3 p3 z4 p4 hd:=by
 have dP:=h.ne;refine⟨k.2 _ _ (by simpa using dP.2.1) h.cell,h.e1,h.e2,h.e3,h.e4,h.o1.fx k λb hb=>?_,h.o2.fx k λb hb=>?_,h.o3.fx k λb hb=>?_,h.o4.fx k λb hb=>?_,h.aM.fx (k.mono λx hx=>by rw[cB.1 hx];exact h.w5) (Nw.refl L s),hs,Sl.fx h.img k λb o e hb=>h.off b o e (by rw[cB.1 hb];exact h.w5),h.off,h.own,h.nodup⟩
 all_goals simpa using (by grind)
def dN (K:bL) (k:Int) (v:aS):Option (xr×aS):=bif fO K.m v.W k then some (ZY (ZG K.img k.toNat), { v with W:=bK K.m v.W k })else none
def eD.take {Bd:Zh} (hB:HA Bd) (n:Nat) (k:Int) (hm:K.sup.blocks=(K.m:Int)) (hi:K.m*64<=K.img.length) (hl:K.img.length<1000000) (hn:170<=n) (h:eD K s v L z1 p1 z2 p2 z3 p3 z4 p4 hd):
  Ok (λo=>match dN K k v with
   |none=>o=(.fp,s)
   |some (b,v')=>∃d s',o=(.val [d],s')/\eD K s' v' L z1 p1 z2 p2 z3 p3 z4 p4 hd/\Fx [K.j] s s'/\PT s' b d) (run Bd n 228 [.ptr (some (K.w,0)),.int .i64 k] s):=by
 have dP:=h.ne;refine(Zza hB n K.w K.a K.img k s h.cell rfl (by rw[<-hm];rfl) rfl h.set dP.2.2.1 dP.2.1 h.img (λb o e hb=>h.off b o e (by rw[cB.1 hb];exact h.w5)) hi hl hn).mono ?_;intro o ho;unfold dN;cases hf:fO K.m v.W k with
 |false=>rw[hf]at ho;exact ho
 |true=>
  rw[hf]at ho;obtain⟨d,s',rfl,cL,hs,hb⟩:=ho;exact⟨d,s',rfl,h.ajn cL hs,cL,hb⟩
def Mt: ∀ {l:List bw} {j:Nat} {x:bw},l[j]? =some x->((bT l).drop (j*3)).take 3=eL x
 |[],j,e,h=>by simp at h
 |x::l,0,e,h=>by
  simp only[kW,fT]at h;subst h;rfl
 |x::l,j+1,e,h=>by
  have e2:bT (x::l)=eL x++bT l:=rfl;rw[e2,show(j+1)*3=(eL x).length+j*3 by show _=3+_;omega,<-kV,C4];exact Mt (by simpa using h)
def rX (K:bL) (s:St) (L:al) (r:Option aS) (ds:ah) (o:Out ah×St):Prop:=match r with
 |none=>∃s',o=(.fp,s')/\Fx L s s'
 |some v=>∃s' L',o=(.val ds,s')/\Wk K s' v L'/\Fx L s s'/\Nw L s L'
def eD.ajl (h:eD K s v L z1 p1 z2 p2 z3 p3 z4 p4 hd) (x:bw) (hl:v.aG.length<1000000):
  ∃b s1 s2 L',(∀Kc:ai->M β,(cd (eL x) λi=>bS i 0 3 λcs'=>cm 3 p1 v.aG.length cs' 1 2932031007402 Kc) s=Kc (some (b,0)) s1)/\
   (∀Kc:M β,dI K.w 11 [.slice 3 (some (b,0)) (v.aG.length+1)] Kc s1=Kc s2)/\Wk K s2 { v with aG:=v.aG++[x] } L'/\Fx L s s2/\Nw L s L':=by
 obtain⟨b,s1,hb,ho,cL,he⟩:=zP (β:=β) (lim:=2932031007402) h.o1 (sz:=3) (n:=v.aG.length) (eL x) (by omega) (ZB _) rfl;have dP:=h.ne;have cG:=cL.2 K.w _ (by grind) h.cell;have D1: ∀x∈aO p1,x∈L:=λx hx=>by rw[h.own];simp[hx]
 let L':=K.w::K.i::K.j::(aO (some (b,0))++(aO p2++(aO p3++aO p4)))
 have fX:Fx L s (s1.set K.w (some ⟨false,rL K { v with aG:=v.aG++[x] } (dM 3 (some (b,0)) (v.aG.length+1)) (dM z2 p2 v.aM.length) (dM z3 p3 v.aK.length) (dM z4 p4 v.free.length)⟩)):=
  (cL.mono D1).trans ((Fx.set s1 K.w _).mono λy hy=>by rw[cB.1 hy];exact h.EH)
 have jo:=h.nodup;rw[h.own]at jo;have Ej:(K.w::K.i::K.j::(aO (some (b,0))++(aO p2++(aO p3++aO p4)))).Nodup:=Mk (A:=[K.w,K.i,K.j]) (B:=aO p1) jo (λy hy=>h.lt y (by rw[h.own];exact hy)) hb;have gX:Nw L s L':=λy hy=>by
  have EA:y∈K.w::K.i::K.j::([b]++(aO p2++(aO p3++aO p4))):=hy;rw[h.own];simp only[eF,gx,List.mem_nil_iff,oH]at EA⊢;grind
 have akt: ∀y,y∉aO p1->y≠K.w->∀c,s[y]? =some c->(s1.set K.w (some ⟨false,rL K { v with aG:=v.aG++[x] } (dM 3 (some (b,0)) (v.aG.length+1)) (dM z2 p2 v.aM.length) (dM z3 p3 v.aK.length) (dM z4 p4 v.free.length)⟩))[y]? =some c:=λy h1 h2 c hc=>by
  rw[jv (by omega)];exact cL.2 y c h1 hc
 have fD:Fx (K.w::aO p1) s (s1.set K.w (some ⟨false,rL K { v with aG:=v.aG++[x] } (dM 3 (some (b,0)) (v.aG.length+1)) (dM z2 p2 v.aM.length) (dM z3 p3 v.aK.length) (dM z4 p4 v.free.length)⟩)):=
  ⟨fX.1,by grind⟩
 have jb: ∀y,y∈aO p2++(aO p3++aO p4)->y∉K.w::aO p1:=λy hy hm=>by
  rcases eF.1 hm with e|e
  .grind
  .have wO:=jo
   simp only[zu,rO]at wO;grind
 have vi:b≠K.w:=λe=>by have:=(ef.1 h.cell).1;omega
 refine⟨b,s1,_,L',he,λKc=>?_,⟨3,some (b,0),z2,p2,z3,p3,z4,p4,hd,⟨?_,.inl rfl,h.e2,h.e3,h.e4,?_,?_,?_,?_,?_,?_,?_,?_,rfl,Ej⟩⟩,fX,gX⟩
 .rw[qD cG (by show 11<19;omega)]
  rfl
 .rw[kX (by have:=(ef.1 cG).1;exact this),bB];rfl
 .rw[Iv]
  exact(show bm [] s1 (some (b,0)) (bT v.aG++bT [x])from ho).fx (Fx.set s1 K.w _) (λy hy=>by
   rw[cB.1 hy,cB];exact vi)
 .exact h.o2.fx fD λy hy=>jb y (by simp[hy])
 .exact h.o3.fx fD λy hy=>jb y (by simp[hy])
 .exact h.o4.fx fD λy hy=>jb y (by simp[hy])
 .exact h.aM.fx fX gX
 .exact h.set.fx fD (λhm=>by
   grind) (λhm=>by
   grind)
 .exact Sl.fx h.img fX h.off
 .exact h.off.new h.img gX
def oP (sup:cy) (x:bw):Bool:=(bif decide (x.gen>=1)then decide (x.gen<=sup.g)else false)&&(bif (bif x.live then true else decide (x.gen<sup.g))then true else x.block==0)
def nX (x:bw):Bool:=(x.live==false)&&((x.gen==0)&&((x.block==0)&&true))
def pS (K:bL) (k:Int) (x:bw) (v:aS):Option aS:=
 bif decide (k>=K.sup.used)then(bif nX x then some v else none)
 else(bif oP K.sup x then some { v with aG:=v.aG++[x] } else none)
def nk (K:bL):Int->List bw->aS->Option aS
 |_,[],v=>some v
 |k,x::r,v=>match pS K k x v with
  |none=>none
  |some v'=>nk K (k+1) r v'
def mY (K:bL) (k slot:Int) (v:aS):Option aS:=match dN K k v with
 |some (.leaf x,v')=>nk K slot x v'
 |_=>none
variable {v v':aS} {K:bL}
def ZsN {x:bw} (h:pS K k x v=some v'):v'.aG.length<=v.aG.length+1:=by
 grind[pS]
def ZoG {K:bL} : ∀ {x:List bw} {k:Int} {v v':aS},nk K k x v=some v'->v'.aG.length<=v.aG.length+x.length
 |[],_,_,_,h=>by cases h;simp
 |x::r,k,v,v',h=>by
  unfold nk at h;cases h1:pS K k x v with
  |none=>rw[h1]at h;cases h
  |some w=>
   rw[h1]at h;have:=ZsN h1;have:=ZoG h;simp;omega
structure Dl (K:bL):Prop where
 m:K.sup.blocks=(K.m:Int)
 F9:K.m*64<=K.img.length
 len:K.img.length<1000000
def eD.wk (h:eD K s v L z1 p1 z2 p2 z3 p3 z4 p4 hd):Wk K s v L:=⟨_,_,_,_,_,_,_,_,_,h⟩
def Zzf {Bd:Zh} (h:HA Bd) (n:Nat) (hK:Dl K) (k slot:Int) (Kh:0<=slot) (eX:slot<=100000) (hW:Wk K s v L) (hl:v.aG.length<100000) (hn:180<=n):
  Ok (rX K s L (mY K k slot v) []) (run Bd n 229 [.ptr (some (K.w,0)),.int .i64 k,.int .i64 slot] s):=by
 obtain⟨n,rfl⟩: ∃k,n=k+2:=⟨n-2,by omega⟩;rw[Ze,h.aeX];unfold Qk F5 uA Q_ cM Zm C_ aA ix Li rV Lb mY;simp only[eH,av,aq,Za];obtain⟨z1,p1,z2,p2,z3,p3,z4,p4,hd,hW⟩:=hW;refine Ok.wv (hW.take h (n+1) k hK.m hK.F9 hK.len (by omega)) ?_ ?_
 .intro s' hp
  cases ht:dN K k v with
  |none=>rw[ht]at hp;cases hp;exact⟨s,rfl,.refl L s⟩
  |some q=>rw[ht]at hp;grind
 intro ds s1 hp;cases ht:dN K k v with
 |none=>rw[ht]at hp;cases hp
 |some q=>
  obtain⟨b,v1⟩:=q;rw[ht]at hp;obtain⟨d,s2,e,iN,cL,hb⟩:=hp;cases e;have yE:v1.aG=v.aG:=by
   unfold dN at ht;grind
  have pZ:Fx L s s1:=cL.mono λy hy=>by rw[cB.1 hy];exact hW.w5
  simp only[Dd,aq];cases b with
  |node x=>obtain⟨p,rfl,_⟩:=hb;exact .mk ⟨s1,rfl,pZ⟩
  |cc x=>obtain⟨rfl,_⟩:=hb;exact .mk ⟨s1,rfl,pZ⟩
  |queue x=>obtain⟨rfl,_⟩:=hb;exact .mk ⟨s1,rfl,pZ⟩
  |dir x=>obtain⟨p,rfl,_⟩:=hb;exact .mk ⟨s1,rfl,pZ⟩
  |none=>cases hb;exact .mk ⟨s1,rfl,pZ⟩
  |leaf x=>
   obtain⟨rfl,hx⟩:=hb;have hlen:(bT x).length=21:=by rw[ZB,hx]
   show Ok (rX K s L (nk K slot x v1) []) (bA (bT x) 21 _ _);obtain⟨R,hR⟩: ∃R,nk K slot x v1=R:=⟨_,rfl⟩;rw[hR];rw[bI hlen,show(bT x).take 21=bT x from dG (by omega)];refine Zi _ (λq y t=>∃(i:Nat) (u:aS) (Lu:al),y=[.int .i64 i]/\i<=7/\7-i<=q/\Wk K t u Lu/\Fx L s t/\Nw L s Lu/\u.aG.length<=v.aG.length+i/\nk K (slot+i) (x.drop i) u=R) ?_ 7 (n+1) _ _ ⟨0,v1,L,rfl,by omega,by omega,iN.wk,pZ,.refl L s,by rw[yE];omega,by simp[hR]⟩ (by omega);rintro q _ t ⟨i,u,Lu,rfl,hi,hq,dZ,fK,jX,AJ,aP⟩ rec aN;simp only[av,aq];by_cases aw:i<7
   .rw[ax (show(i:Int)<7 by omega),ae,Zb (show aR (i:Int) 7=true from Zj aw),bp]
    have mX:x[i]? =some (x[i]'(by omega)):=by grind
    rw[Mt mX];have fW:x.drop i=(x[i]'(by omega))::x.drop (i+1):=iV (by omega);rw[fW]at aP;generalize x[i]'(by omega)=e at aP;obtain⟨z1,p1,z2,p2,z3,p3,z4,p4,hd,dZ⟩:=dZ;rw[bI (cs:=eL e) (n:=3) rfl,bd,Zo dZ.cell rfl];simp only[bg];have cG:ar (slot+(i:Int))=slot+i:=Zc;have fR:ar ((i:Int)+1)=((i+1:Nat):Int):=Zc;rw[cG,fR];unfold nk pS at aP;have tT:slot+((i+1:Nat):Int)=slot+i+1:=by omega
    cases hk:decide (slot+(i:Int)>=K.sup.used)with
    |true=>
     rw[hk,ae]at aP;rw[ae];show Ok _ (cQ (run Bd (n+1) 225 [.bool (nX e)]) _ t);cases h0:nX e with
     |true=>
      rw[h0]at aP;rw[tr h n rfl];simp only[aq];exact aN (7-(i+1)) _ _ (by omega) ⟨i+1,u,Lu,rfl,by omega,aQ _,dZ.wk,fK,jX,by omega,by rw[tT];exact aP⟩
     |false=>
      rw[h0]at aP;rw[oN h n rfl];simp only[af]at aP;rw[<-aP];exact .mk ⟨t,rfl,fK⟩
    |false=>
     rw[hk,af]at aP;rw[af];have oq:rL K u (dM z1 p1 u.aG.length) (dM z2 p2 u.aM.length) (dM z3 p3 u.aK.length) (dM z4 p4 u.free.length)=rL K u (dM z1 p1 u.aG.length) (dM z2 p2 u.aM.length) (dM z3 p3 u.aK.length) (dM z4 p4 u.free.length):=rfl;clear oq;have ny:Ok (rX K s L R []) (cQ (run Bd (n+1) 225 [.bool (oP K.sup e)]) (λds=>aL ds<|bH (some (K.w,0)) λi1 o1=>bD i1 (o1+11) λd3=>dr 3 d3 λx4 dC=>bA (eL e) 3<|cd (eL e) λi2=>bS i2 0 3 λbM=>cm 3 x4 dC bM 1 2932031007402 λp=>bH (some (K.w,0)) λi3 o2=>dI i3 (o2+11) [.slice 3 p (dC+1)]<|rec [.int .i64 ((i+1:Nat):Int)]) t):=by
      cases h0:oP K.sup e with
      |true=>
       rw[h0]at aP;rw[tr h n rfl];simp only[aq,bd];rw[Zo dZ.cell rfl];show Ok _ (dr 3 (.slice z1 p1 u.aG.length) _ t);rw[Z2 3 z1 p1 _ dZ.e1,bI (cs:=eL e) (n:=3) rfl];obtain⟨b,t1,t2,L2,g1,g2,g3,g4,g5⟩:=dZ.ajl (β:=ah) e (by omega);rw[g1,eW,g2];exact aN (7-(i+1)) _ _ (by omega) ⟨i+1,_,L2,rfl,by omega,aQ _,g3,fK.step g4 jX,jX.trans fK.1 g5,by simp;omega,by rw[tT];exact aP⟩
      |false=>
       rw[h0]at aP;rw[oN h n rfl];simp only[af]at aP;rw[<-aP];exact .mk ⟨t,rfl,fK⟩
     unfold oP at ny;rw[hJ (i:=1) (d:= .int .i64 e.gen) rfl];simp only[bg];have p9: ∀Kc:DV->M ah,bD K.w (0+4) Kc t=Kc (.int .i64 K.sup.g) t:=λKc=>Zo dZ.cell rfl Kc
     cases oq:decide (e.gen>=1)with
     |false=>
      simp only[oq,af,gf]at ny;simp only[af,au,aq];exact ny
     |true=>
      simp only[oq,ae]at ny;rw[ae,hJ (i:=1) (d:= .int .i64 e.gen) rfl];simp only[bg,bd];rw[p9];simp only[bg,au,aq];cases p7:decide (e.gen<=K.sup.g)with
      |false=>
       simp only[p7,gf]at ny;simp only[af];exact ny
      |true=>
       simp only[p7,dF]at ny;rw[ae,hJ (i:=0) (d:= .bool e.live) rfl];simp only[tm];cases eN:e.live with
       |true=>
        simp only[eN,ae]at ny;rw[ae];simp only[ae];exact ny
       |false=>
        simp only[eN,af]at ny;rw[af,hJ (i:=1) (d:= .int .i64 e.gen) rfl];simp only[bg];rw[p9];simp only[bg];cases JG:decide (e.gen<K.sup.g)with
        |true=>
         simp only[JG,ae]at ny;rw[ae];exact ny
        |false=>
         simp only[JG,af]at ny;rw[af,hJ (i:=2) (d:= .int .i64 e.block) rfl];simp only[bg];exact ny
   .rw[aF (show ¬(i:Int)<7 by omega),af]
    rw[lU (by omega)]at aP;simp only[Zd];rw[<-aP];exact .mk ⟨t,Lu,rfl,dZ,fK,jX⟩
def ZnF {x:List bw} (h:ZY l= .leaf x):x.length=7:=by
 unfold ZY at h;split at h
 .cases h
 .split at h
  .rename_i e;cases h;exact Ic e
  grind
def Z3 {b:xr} (h:dN K k v=some (b,v')):v'.aG=v.aG/\v'.aM=v.aM/\v'.aK=v.aK/\v'.free=v.free/\v'.nodes=v.nodes/\b=ZY (ZG K.img k.toNat):=by
 grind[dN]
def ZqS (h:mY K k slot v=some v'):v'.aG.length<=v.aG.length+7:=by
 unfold mY at h;cases ht:dN K k v with
 |none=>rw[ht]at h;cases h
 |some q=>
  obtain⟨b,v1⟩:=q;rw[ht]at h;obtain⟨h1,_,_,_,_,h2⟩:=Z3 ht;cases b with
  |leaf x=>
   have:=ZoG h;rw[h1,ZnF h2.symm]at this;exact this
  |node x=>cases h
  |cc x=>cases h
  |queue x=>cases h
  |dir x=>cases h
  |none=>cases h
def kD (K:bL) (cJ x5:Int):Int->ak->aS->Option aS
 |_,[],v=>some v
 |k,y::r,v=>bif (!(y==0))==decide (x5*16+k<cJ)then(bif !(y==0)then(match mY K y ((x5*16+k)*7) v with
   |none=>none
   |some v'=>kD K cJ x5 (k+1) r v')else kD K cJ x5 (k+1) r v)else none
def od (K:bL) (cJ:Int):Int->ak->aS->Option aS
 |_,[],v=>some v
 |k,y::r,v=>bif (!(y==0))==decide (k*16<cJ)then(bif y==0 then od K cJ (k+1) r v else(match dN K y v with
   |some (.cc x,v')=>(match kD K cJ k 0 x v' with
    |none=>none
    |some v''=>od K cJ (k+1) r v'')
   |_=>none))else none
def nY (K:bL) (v:aS):Option aS:=bif K.sup.used==0 then some v else(match dN K K.sup.cc v with
 |some (.cc x,v')=>od K (BF K.sup.used) 0 x v'
 |_=>none)
def To {K:bL} {cJ x5:Int} : ∀ {x:ak} {k:Int} {v v':aS},kD K cJ x5 k x v=some v'->v'.aG.length<=v.aG.length+7*x.length
 |[],_,_,_,h=>by cases h;simp
 |y::r,k,v,v',h=>by
  unfold kD at h;cases h1:((!(y==0))==decide (x5*16+k<cJ))with
  |false=>rw[h1]at h;cases h
  |true=>
   rw[h1,ae]at h;cases h2:(!(y==0))with
   |false=>
    rw[h2,af]at h;have:=To h;simp;omega
   |true=>
    rw[h2,ae]at h;cases h3:mY K y ((x5*16+k)*7) v with
    |none=>rw[h3]at h;cases h
    |some w=>
     rw[h3]at h;have:=To h;have:=ZqS h3;simp;omega
def ZzV {Bd:Zh} (hL:HA Bd) (hM:HA Bd) (n:Nat) (hK:Dl K) (cJ:Int) (i5:Nat) (h5:i5<16) (x:ak) (hx:x.length=16) (hn:181<=n) (s:St) (L:al) (t0:St) (L0:al) (v0:aS)
  (hW:Wk K t0 v0 L0) (hf:Fx L s t0) (gX:Nw L s L0) (hl:v0.aG.length<10000)
  (R:Option aS) (Kn:M ah) (aP: ∀w,kD K cJ (i5:Int) 0 x v0=some w->∀t Lw,Wk K t w Lw->Fx L s t->Nw L s Lw->Ok (rX K s L R []) (Kn t)) (cA:kD K cJ (i5:Int) 0 x v0=none->R=none):
  Ok (rX K s L R []) (cS (λdw st=>
      aD .i64 st λx8 st=>
      aL st<|
      bif decide (x8<16)then
       aC (aR x8 16)<|
      eJ ((ints x).take 16) (x8.toNat*1) λd6=>
      cY .i64 d6 λx9=>
      cQ (run Bd n 225 [.bool ((!(x9==0))==(decide (ar ((ar ((i5:Int)*16))+x8)<cJ)))]) λds=>
      aL ds<|
      bif !(x9==0)then
       cQ (run Bd n 229 [.ptr (some (K.w,0)),.int .i64 x9,.int .i64 (ar ((ar ((ar ((i5:Int)*16))+x8))*7))]) λds=>
      aL ds<|
      dw [.int .i64 (ar (x8+1))]
      else
       dw [.int .i64 (ar (x8+1))]
      else
       Kn) n [.int .i64 0] t0):=by
 obtain⟨n,rfl⟩: ∃k,n=k+1:=⟨n-1,by omega⟩;rw[show(ints x).take 16=ints x from dG (by simp[ints,hx])];obtain⟨G,hG⟩: ∃G,kD K cJ (i5:Int) 0 x v0=G:=⟨_,rfl⟩;rw[hG]at aP cA;refine Zi _ (λq y t=>∃(i:Nat) (u:aS) (Lu:al),y=[.int .i64 i]/\i<=16/\16-i<=q/\Wk K t u Lu/\Fx L s t/\Nw L s Lu/\u.aG.length<=v0.aG.length+7*i/\kD K cJ i5 i (x.drop i) u=G) ?_ 16 (n+1) _ _ (by grind) (by omega);rintro q _ t ⟨i,u,Lu,rfl,hi,hq,dZ,fK,jX,AJ,ec⟩ rec aN;simp only[av,aq];by_cases aw:i<16
 .have fW:x.drop i=(x[i]'(by omega))::x.drop (i+1):=iV (by omega)
  rw[fW]at ec;rw[ax (show(i:Int)<16 by omega),ae,Zb (show aR (i:Int) 16=true from Zj aw),bp,cR,hJ (ZD)];simp only[bg];generalize x[i]'(by omega)=y at ec;have cG:ar ((i5:Int)*16)=(i5:Int)*16:=Zc;have fR:ar ((i5:Int)*16+i)=(i5:Int)*16+i:=Zc;have jA:ar (((i5:Int)*16+i)*7)=((i5:Int)*16+i)*7:=Zc;have j4:ar ((i:Int)+1)=((i+1:Nat):Int):=Zc;rw[cG,fR,jA,j4];have tT:((i+1:Nat):Int)=(i:Int)+1:=by omega
  unfold kD at ec;cases h1:((!(y==0))==decide ((i5:Int)*16+i<cJ))with
  |false=>
   rw[h1,af]at ec;rw[oN hM n rfl];rw[cA ec.symm];exact .mk ⟨t,rfl,fK⟩
  |true=>
   rw[h1,ae]at ec;rw[tr hM n rfl];simp only[aq];cases h2:(!(y==0))with
   |false=>
    rw[h2,af]at ec;rw[af];exact aN (16-(i+1)) _ _ (by omega) (by grind)
   |true=>
    rw[h2,ae]at ec;rw[ae];refine Ok.wv (Zzf hL (n+1) hK y (((i5:Int)*16+i)*7) (by omega) (by omega) dZ (by omega) (by omega)) ?_ ?_
    .intro t' hp
     cases h3:mY K y (((i5:Int)*16+i)*7) u with
     |some w=>rw[h3]at hp;obtain⟨_,_,e,_⟩:=hp;cases e
     |none=>
      rw[h3]at hp ec;obtain⟨t2,e,mU⟩:=hp;cases e;rw[cA ec.symm];exact⟨t',rfl,fK.step mU jX⟩
    .intro ds t' hp
     cases h3:mY K y (((i5:Int)*16+i)*7) u with
     |none=>rw[h3]at hp;obtain⟨_,e,_⟩:=hp;cases e
     |some w=>
      rw[h3]at hp ec;obtain⟨t2,L2,e,mg,mU,wO⟩:=hp;cases e;simp only[aq];have gp:=ZqS h3;exact aN (16-(i+1)) _ _ (by omega) ⟨i+1,w,L2,rfl,by omega,aQ _,mg,fK.step mU jX,jX.trans fK.1 wO,by omega,by rw[tT];exact ec⟩
 .rw[aF (show ¬(i:Int)<16 by omega),af]
  rw[lU (by omega)]at ec;exact aP u ec.symm t Lu dZ fK jX
def Zyg (n:Nat) (hK:Dl K) (hW:Wk K s v L) (hl:v.aG.length<1000) (hn:190<=n):
  Ok (rX K s L (nY K v) []) (run Bd n 226 [.ptr (some (K.w,0))] s):=by
 obtain⟨n,rfl⟩: ∃k,n=k+2:=⟨n-2,by omega⟩;rw[Ze,h.aeU];unfold Qo jh Zm cw uA Q_ cM C_ Li ix Lb nY;simp only[eH,aq,Za,bd];obtain⟨z1,p1,z2,p2,z3,p3,z4,p4,hd,hW⟩:=hW;rw[Zo hW.cell rfl];simp only[bg];cases hu:(K.sup.used==0)with
 |true=>
  rw[ae,ae,Zd];exact .mk ⟨s,L,rfl,hW.wk,.refl L s,.refl L s⟩
 |false=>
  rw[af,af,Zo hW.cell rfl];simp only[bg];have jm:=ZpF (n-1) K.sup.used s;rw[show n-1+2=n+1 by omega]at jm;rw[Zk jm];simp only[av,aq];rw[Zo hW.cell rfl];simp only[bg];generalize BF K.sup.used=cJ;refine Ok.wv (hW.take h (n+1) K.sup.cc hK.m hK.F9 hK.len (by omega)) ?_ ?_
  .intro s' hp
   cases ht:dN K K.sup.cc v with
   |none=>rw[ht]at hp;cases hp;exact⟨s,rfl,.refl L s⟩
   |some q=>rw[ht]at hp;grind
  intro ds s1 hp;cases ht:dN K K.sup.cc v with
  |none=>rw[ht]at hp;cases hp
  |some q=>
   obtain⟨b,v1⟩:=q;rw[ht]at hp;obtain⟨d,s2,e,iN,cL,hb⟩:=hp;cases e;have yE:=(Z3 ht).1;have pZ:Fx L s s1:=cL.mono λy hy=>by rw[cB.1 hy];exact hW.w5
   simp only[Dd,aq];cases b with
   |node x=>obtain⟨p,rfl,_⟩:=hb;exact .mk ⟨s1,rfl,pZ⟩
   |leaf x=>obtain⟨rfl,_⟩:=hb;exact .mk ⟨s1,rfl,pZ⟩
   |queue x=>obtain⟨rfl,_⟩:=hb;exact .mk ⟨s1,rfl,pZ⟩
   |dir x=>obtain⟨p,rfl,_⟩:=hb;exact .mk ⟨s1,rfl,pZ⟩
   |none=>cases hb;exact .mk ⟨s1,rfl,pZ⟩
   |cc x=>
    obtain⟨rfl,hx⟩:=hb;have hlen:(ints x).length=16:=by simp[ints,hx]
    show Ok (rX K s L (od K cJ 0 x v1) []) (bA (ints x) 16 _ _);obtain⟨R,hR⟩: ∃R,od K cJ 0 x v1=R:=⟨_,rfl⟩;rw[hR,bI hlen,show(ints x).take 16=ints x from dG (by omega)];refine Zi _ (λq y t=>∃(i:Nat) (u:aS) (Lu:al),y=[.int .i64 i]/\i<=16/\16-i<=q/\Wk K t u Lu/\Fx L s t/\Nw L s Lu/\u.aG.length<=v.aG.length+112*i/\od K cJ i (x.drop i) u=R) ?_ 16 (n+1) _ _ ⟨0,v1,L,rfl,by omega,by omega,iN.wk,pZ,.refl L s,by rw[yE];omega,by simpa using hR⟩ (by omega);rintro q _ t ⟨i,u,Lu,rfl,hi,hq,dZ,fK,jX,AJ,aP⟩ rec aN;simp only[av,aq];by_cases aw:i<16
    .have fW:x.drop i=(x[i]'(by omega))::x.drop (i+1):=iV (by omega)
     rw[fW]at aP;rw[ax (show(i:Int)<16 by omega),ae,Zb (show aR (i:Int) 16=true from Zj aw),bp,cR,hJ (ZD)];simp only[bg];generalize x[i]'(by omega)=y at aP;have cG:ar ((i:Int)*16)=(i:Int)*16:=Zc;have j4:ar ((i:Int)+1)=((i+1:Nat):Int):=Zc;have tT:((i+1:Nat):Int)=(i:Int)+1:=by omega
     rw[show decide (ar ((i:Int)*16)<cJ)=decide ((i:Int)*16<cJ) by rw[cG]];unfold od at aP;cases h1:((!(y==0))==decide ((i:Int)*16<cJ))with
     |false=>
      rw[h1,af]at aP;rw[oN h n rfl,<-aP];exact .mk ⟨t,rfl,fK⟩
     |true=>
      rw[h1,ae]at aP;rw[tr h n rfl];simp only[aq];cases h2:(y==0)with
      |true=>
       rw[h2,ae]at aP;rw[ae,j4];exact aN (16-(i+1)) _ _ (by omega) (by grind)
      |false=>
       rw[h2,af]at aP;rw[af];obtain⟨z1,p1,z2,p2,z3,p3,z4,p4,hd,dZ⟩:=dZ;refine Ok.wv (dZ.take h (n+1) y hK.m hK.F9 hK.len (by omega)) ?_ ?_
       .intro s' hp
        cases ht:dN K y u with
        |none=>rw[ht]at hp aP;cases hp;rw[<-aP];exact⟨t,rfl,fK⟩
        |some q=>rw[ht]at hp;grind
       intro ds t1 hp;cases ht:dN K y u with
       |none=>rw[ht]at hp;cases hp
       |some q=>
        obtain⟨b,u1⟩:=q;rw[ht]at hp aP;obtain⟨d,s2,e,mg,fX,hb⟩:=hp;cases e;have vB:=(Z3 ht).1;have sG:Fx L s t1:=fK.step (fX.mono (T':=Lu) λy hy=>by rw[cB.1 hy];exact dZ.w5) jX;simp only[Dd,aq];cases b with
        |node x=>obtain⟨p,rfl,_⟩:=hb;rw[<-aP];exact .mk ⟨t1,rfl,sG⟩
        |leaf x=>obtain⟨rfl,_⟩:=hb;rw[<-aP];exact .mk ⟨t1,rfl,sG⟩
        |queue x=>obtain⟨rfl,_⟩:=hb;rw[<-aP];exact .mk ⟨t1,rfl,sG⟩
        |dir x=>obtain⟨p,rfl,_⟩:=hb;rw[<-aP];exact .mk ⟨t1,rfl,sG⟩
        |none=>cases hb;rw[<-aP];exact .mk ⟨t1,rfl,sG⟩
        |cc x2=>
         obtain⟨rfl,Ey⟩:=hb;have GN:(ints x2).length=16:=by simp[ints,Ey]
         show Ok _ (bA (ints x2) 16 _ _);rw[bI GN];refine ZzV h h (n+1) hK cJ i aw x2 Ey (by omega) s L t1 Lu u1 mg.wk sG jX (by rw[vB];omega) R (rec [.int .i64 (ar ((i:Int)+1))]) ?_ ?_
         .intro w hw t2 Lw hWw Oc gX
          have gp:=To hw;simp only at aP;rw[hw]at aP;rw[j4];refine aN (16-(i+1)) _ _ (by omega) ⟨i+1,w,Lw,rfl,by omega,aQ _,hWw,Oc,gX,?_,by rw[tT];exact aP⟩;rw[vB]at gp;omega
         grind
    .rw[aF (show ¬(i:Int)<16 by omega),af]
     rw[lU (by omega)]at aP;rw[Zd,<-aP];exact .mk ⟨t,Lu,rfl,dZ,fK,jX⟩
def TS {B:al} (h:(A++(B++C)).Nodup): ∀y∈A++C,y∉B:=by
 rw[rO,rO]at h;grind
def eD.aji (h:eD K s v L z1 p1 z2 p2 z3 p3 z4 p4 hd) (x:Int) (hl:v.free.length<1000000):
  ∃b s1 s2 L',(∀Kc:ai->M β,(cd [DV.int .i64 x] λi=>bS i 0 1 λcs'=>cm 1 p4 v.free.length cs' 1 8796093022208 Kc) s=Kc (some (b,0)) s1)/\
   (∀Kc:M β,dI K.w 17 [.slice 1 (some (b,0)) (v.free.length+1)] Kc s1=Kc s2)/\eD K s2 { v with free:=v.free++[x] } L' z1 p1 z2 p2 z3 p3 1 (some (b,0)) (hd)/\Fx L s s2/\Nw L s L'/\Fx (K.w::aO p4) s s2:=by
 obtain⟨b,s1,hb,ho,cL,he⟩:=zP (β:=β) (lim:=8796093022208) h.o4 (sz:=1) (n:=v.free.length) [DV.int .i64 x] (by omega) (by simp[ints]) rfl;have dP:=h.ne;have cG:=cL.2 K.w _ (by grind) h.cell;have D1: ∀x∈aO p4,x∈L:=λx hx=>by rw[h.own];simp[hx]
 let L':=K.w::K.i::K.j::(aO p1++(aO p2++(aO p3++aO (some (b,0)))))
 let S':=s1.set K.w (some ⟨false,rL K { v with free:=v.free++[x] } (dM z1 p1 v.aG.length) (dM z2 p2 v.aM.length) (dM z3 p3 v.aK.length) (dM 1 (some (b,0)) (v.free.length+1))⟩)
 have fX:Fx L s S':=
  (cL.mono D1).trans ((Fx.set s1 K.w _).mono λy hy=>by rw[cB.1 hy];exact h.EH)
 have jo:((K.w::K.i::K.j::(aO p1++(aO p2++aO p3)))++(aO p4++([]:al))).Nodup:=by
  have:=h.nodup;rw[h.own]at this;grind
 have JT: ∀y∈(K.w::K.i::K.j::(aO p1++(aO p2++aO p3)))++(aO p4++([]:al)),y<s.length:=λy hy=>h.lt y (by
  rw[h.own];grind)
 have Ej:L'.Nodup:=by
  have:=Mk jo JT hb;show(K.w::K.i::K.j::(aO p1++(aO p2++(aO p3++aO (some (b,0)))))).Nodup;simpa only[fI,nP,jG,gz,aO]using this
 have gX:Nw L s L':=λy hy=>by
  have EA:y∈K.w::K.i::K.j::(aO p1++(aO p2++(aO p3++aO (some (b,0))))):=hy;rw[h.own];by_cases e:y=b
  .exact .inr (by omega)
  .refine .inl ?_
   simp only[eF,gx,aO,List.mem_nil_iff,oH]at EA⊢;grind
 have fD:Fx (K.w::aO p4) s S':=
  ⟨fX.1,λy c hy hc=>by
   simp only[eF,not_or]at hy;show(s1.set K.w _)[y]? =_;rw[jv (by omega)];exact cL.2 y c hy.2 hc⟩
 have JV:=TS jo;have jb: ∀y,y∈aO p1++(aO p2++aO p3)->y∉K.w::aO p4:=λy hy hm=>by
  rcases eF.1 hm with e|e
  .grind
  .exact JV y (by grind) e
 have vi:b≠K.w:=λe=>by have:=(ef.1 h.cell).1;omega
 refine⟨b,s1,S',L',he,λKc=>?_,⟨?_,h.e1,h.e2,h.e3,.inl rfl,?_,?_,?_,?_,?_,?_,?_,?_,rfl,Ej⟩,fX,gX,fD⟩
 .rw[qD cG (by show 17<19;omega)]
  rfl
 .show(s1.set K.w _)[K.w]? =_
  rw[kX (by have:=(ef.1 cG).1;exact this),bB];rfl
 .exact h.o1.fx fD λy hy=>jb y (by simp[hy])
 .exact h.o2.fx fD λy hy=>jb y (by simp[hy])
 .exact h.o3.fx fD λy hy=>jb y (by simp[hy])
 .rw[show ints (v.free++[x])=ints v.free++[.int .i64 x] by unfold ints;rw[fA];rfl]
  exact(show bm [] s1 (some (b,0)) _ from ho).fx (Fx.set s1 K.w _) (λy hy=>by
   rw[cB.1 hy,cB];exact vi)
 .exact h.aM.fx fX gX
 .exact h.set.fx fD (λhm=>by
   grind) (λhm=>by
   grind)
 .exact Sl.fx h.img fX h.off
 .exact h.off.new h.img gX
def eD.ajj (h:eD K s v L z1 p1 z2 p2 z3 p3 z4 p4 hd) (x:Int) (hl:v.aK.length<1000000):
  ∃b s1 s2 L',(∀Kc:ai->M β,(cd [DV.int .i64 x] λi=>bS i 0 1 λcs'=>cm 1 p3 v.aK.length cs' 1 8796093022208 Kc) s=Kc (some (b,0)) s1)/\
   (∀Kc:M β,dI K.w 16 [.slice 1 (some (b,0)) (v.aK.length+1)] Kc s1=Kc s2)/\eD K s2 { v with aK:=v.aK++[x] } L' z1 p1 z2 p2 1 (some (b,0)) z4 p4 (hd)/\Fx L s s2/\Nw L s L'/\Fx (K.w::aO p3) s s2:=by
 obtain⟨b,s1,hb,ho,cL,he⟩:=zP (β:=β) (lim:=8796093022208) h.o3 (sz:=1) (n:=v.aK.length) [DV.int .i64 x] (by omega) (by simp[ints]) rfl;have dP:=h.ne;have cG:=cL.2 K.w _ (by grind) h.cell;have D1: ∀x∈aO p3,x∈L:=λx hx=>by rw[h.own];simp[hx]
 let L':=K.w::K.i::K.j::(aO p1++(aO p2++(aO (some (b,0))++aO p4)))
 let S':=s1.set K.w (some ⟨false,rL K { v with aK:=v.aK++[x] } (dM z1 p1 v.aG.length) (dM z2 p2 v.aM.length) (dM 1 (some (b,0)) (v.aK.length+1)) (dM z4 p4 v.free.length)⟩)
 have fX:Fx L s S':=
  (cL.mono D1).trans ((Fx.set s1 K.w _).mono λy hy=>by rw[cB.1 hy];exact h.EH)
 have jo:((K.w::K.i::K.j::(aO p1++aO p2))++(aO p3++aO p4)).Nodup:=by
  have:=h.nodup;rw[h.own]at this;grind
 have JT: ∀y∈(K.w::K.i::K.j::(aO p1++aO p2))++(aO p3++aO p4),y<s.length:=λy hy=>h.lt y (by
  rw[h.own];grind)
 have Ej:L'.Nodup:=by
  have:=Mk jo JT hb;show(K.w::K.i::K.j::(aO p1++(aO p2++(aO (some (b,0))++aO p4)))).Nodup;simpa only[fI,nP,jG,gz,aO]using this
 have gX:Nw L s L':=λy hy=>by
  have EA:y∈K.w::K.i::K.j::(aO p1++(aO p2++(aO (some (b,0))++aO p4))):=hy;rw[h.own];by_cases e:y=b
  .exact .inr (by omega)
  .refine .inl ?_
   simp only[eF,gx,aO,List.mem_nil_iff,oH]at EA⊢;grind
 have fD:Fx (K.w::aO p3) s S':=
  ⟨fX.1,λy c hy hc=>by
   simp only[eF,not_or]at hy;show(s1.set K.w _)[y]? =_;rw[jv (by omega)];exact cL.2 y c hy.2 hc⟩
 have JV:=TS jo;have jb: ∀y,y∈aO p1++(aO p2++aO p4)->y∉K.w::aO p3:=λy hy hm=>by
  rcases eF.1 hm with e|e
  .grind
  .exact JV y (by simp only[gx,eF]at hy⊢;rcases hy with e|e|e<;>simp[e]) e
 have vi:b≠K.w:=λe=>by have:=(ef.1 h.cell).1;omega
 refine⟨b,s1,S',L',he,λKc=>?_,⟨?_,h.e1,h.e2,.inl rfl,h.e4,?_,?_,?_,?_,?_,?_,?_,?_,rfl,Ej⟩,fX,gX,fD⟩
 .rw[qD cG (by show 16<19;omega)]
  rfl
 .show(s1.set K.w _)[K.w]? =_
  rw[kX (by have:=(ef.1 cG).1;exact this),bB];rfl
 .exact h.o1.fx fD λy hy=>jb y (by simp[hy])
 .exact h.o2.fx fD λy hy=>jb y (by simp[hy])
 .rw[show ints (v.aK++[x])=ints v.aK++[.int .i64 x] by unfold ints;rw[fA];rfl]
  exact(show bm [] s1 (some (b,0)) _ from ho).fx (Fx.set s1 K.w _) (λy hy=>by
   rw[cB.1 hy,cB];exact vi)
 .exact h.o4.fx fD λy hy=>jb y (by simp[hy])
 .exact h.aM.fx fX gX
 .exact h.set.fx fD (λhm=>by
   rcases eF.1 hm with e|e
   .exact dP.1 e.symm
   .exact(dP.2.2.2 K.i (by simp only[gx];grind)).2.1 rfl) (λhm=>by
   rcases eF.1 hm with e|e
   .exact dP.2.1 e.symm
   .exact(dP.2.2.2 K.j (by simp only[gx];grind)).2.2 rfl)
 .exact Sl.fx h.img fX h.off
 .exact h.off.new h.img gX
def eD.ajk (h:eD K s v L z1 p1 z2 p2 z3 p3 z4 p4 hd) (x:dO) (hl:v.aM.length<1000000) {p:ai} (hz:z=4\/p=none) (hs:Sl s p (bY x.cj)) (OH:lG L p):
  ∃b s1 s2 L',(∀Kc:ai->M β,(cd (mj x z p) λi=>bS i 0 2 λcs'=>cm 2 p2 v.aM.length cs' 1 1759218604441 Kc) s=Kc (some (b,0)) s1)/\
   (∀Kc:M β,dI K.w 15 [.slice 2 (some (b,0)) (v.aM.length+1)] Kc s1=Kc s2)/\eD K s2 { v with aM:=v.aM++[x] } L' z1 p1 2 (some (b,0)) z3 p3 z4 p4 (hd++mj x z p)/\Fx L s s2/\Nw L s L'/\Fx (K.w::aO p2) s s2:=by
 obtain⟨b,s1,hb,ho,cL,he⟩:=zP (β:=β) (lim:=1759218604441) h.o2 (sz:=2) (n:=v.aM.length) (mj x z p) (by omega) h.aM.aM.len rfl;have dP:=h.ne;have cG:=cL.2 K.w _ (by grind) h.cell;have D1: ∀x∈aO p2,x∈L:=λx hx=>by rw[h.own];simp[hx]
 let L':=K.w::K.i::K.j::(aO p1++(aO (some (b,0))++(aO p3++aO p4)))
 let S':=s1.set K.w (some ⟨false,rL K { v with aM:=v.aM++[x] } (dM z1 p1 v.aG.length) (dM 2 (some (b,0)) (v.aM.length+1)) (dM z3 p3 v.aK.length) (dM z4 p4 v.free.length)⟩)
 have fX:Fx L s S':=
  (cL.mono D1).trans ((Fx.set s1 K.w _).mono λy hy=>by rw[cB.1 hy];exact h.EH)
 have jo:((K.w::K.i::K.j::aO p1)++(aO p2++(aO p3++aO p4))).Nodup:=by
  have:=h.nodup;rw[h.own]at this;grind
 have JT: ∀y∈(K.w::K.i::K.j::aO p1)++(aO p2++(aO p3++aO p4)),y<s.length:=λy hy=>h.lt y (by
  rw[h.own];grind)
 have Ej:L'.Nodup:=by
  have:=Mk jo JT hb;show(K.w::K.i::K.j::(aO p1++(aO (some (b,0))++(aO p3++aO p4)))).Nodup;simpa only[fI,nP,jG,gz,aO]using this
 have gX:Nw L s L':=λy hy=>by
  have EA:y∈K.w::K.i::K.j::(aO p1++(aO (some (b,0))++(aO p3++aO p4))):=hy;rw[h.own];by_cases e:y=b
  .exact .inr (by omega)
  .refine .inl ?_
   simp only[eF,gx,aO,List.mem_nil_iff,oH]at EA⊢;grind
 have fD:Fx (K.w::aO p2) s S':=
  ⟨fX.1,λy c hy hc=>by
   simp only[eF,not_or]at hy;show(s1.set K.w _)[y]? =_;rw[jv (by omega)];exact cL.2 y c hy.2 hc⟩
 have JV:=TS jo;have jb: ∀y,y∈aO p1++(aO p3++aO p4)->y∉K.w::aO p2:=λy hy hm=>by
  rcases eF.1 hm with e|e
  .grind
  .exact JV y (by simp only[gx,eF]at hy⊢;rcases hy with e|e|e<;>simp[e]) e
 have vi:b≠K.w:=λe=>by have:=(ef.1 h.cell).1;omega
 refine⟨b,s1,S',L',he,λKc=>?_,⟨?_,h.e1,.inl rfl,h.e3,h.e4,?_,?_,?_,?_,?_,?_,?_,?_,rfl,Ej⟩,fX,gX,fD⟩
 .rw[qD cG (by show 15<19;omega)]
  rfl
 .show(s1.set K.w _)[K.w]? =_
  rw[kX (by have:=(ef.1 cG).1;exact this),bB];rfl
 .exact h.o1.fx fD λy hy=>jb y (by simp[hy])
 .skip
  exact(show bm [] s1 (some (b,0)) _ from ho).fx (Fx.set s1 K.w _) (λy hy=>by
   rw[cB.1 hy,cB];exact vi)
 .exact h.o3.fx fD λy hy=>jb y (by simp[hy])
 .exact h.o4.fx fD λy hy=>jb y (by simp[hy])
 .exact(h.aM.fx fX gX).push hz (hs.fx fX OH) (OH.new hs gX)
 .exact h.set.fx fD (λhm=>by
   grind) (λhm=>by
   grind)
 .exact Sl.fx h.img fX h.off
 .exact h.off.new h.img gX
def tA (K:bL) (v:aS) (k:Int):Prop:=(v.aG.length:Int)=(if k<=K.sup.used then k else K.sup.used)/\∀x∈v.aG,ZK x=true
def Zup {x:bw} (hx:ZK x=true) (_h0:0<=K.sup.used) (h:pS K k x v=some v') (ha:tA K v k):tA K v' (k+1):=by
 unfold pS at h;by_cases hk:k>=K.sup.used
 .rw[ax hk,ae]at h
  cases h2:nX x with
  |false=>rw[h2]at h;cases h
  |true=>
   rw[h2]at h;cases h;refine⟨?_,ha.2⟩;rw[ha.1];split<;>split<;>omega
 .rw[aF hk,af]at h
  cases h2:oP K.sup x with
  |false=>rw[h2]at h;cases h
  |true=>
   rw[h2]at h;cases h;refine⟨?_,λy hy=>?_⟩
   .have:=ha.1
    rw[bE (by omega)]at this;rw[bE (by omega)];simp;omega
   .rcases gx.1 hy with h|h
    .exact ha.2 y h
    grind
def ZqV {K:bL} (h0:0<=K.sup.used): ∀ {x:List bw} {k:Int} {v v':aS},(∀y∈x,ZK y=true)->nk K k x v=some v'->tA K v k->tA K v' (k+x.length)
 |[],k,_,_,_,h,ha=>by cases h;simpa using ha
 |y::r,k,v,v',hr,h,ha=>by
  unfold nk at h;cases h1:pS K k y v with
  |none=>rw[h1]at h;cases h
  |some w=>
   rw[h1]at h;have:=ZqV h0 (by grind) h (Zup (hr y (by simp)) h0 h1 ha);rwa [show k+((y::r).length:Int)=k+1+r.length by simp;omega]
def ZrM {x:List bw} (h:ZM l=some x): ∀y∈x,ZK y=true:=by
 grind[ZM]
def Ztr {x:List bw} (h:ZY l= .leaf x): ∀y∈x,ZK y=true:=by
 unfold ZY at h;split at h
 .cases h
 .split at h
  .rename_i e;cases h;exact ZrM e
  grind
def Zyl (h0:0<=K.sup.used) (h:mY K k slot v=some v') (ha:tA K v slot):tA K v' (slot+7):=by
 unfold mY at h;cases ht:dN K k v with
 |none=>rw[ht]at h;cases h
 |some q=>
  obtain⟨b,v1⟩:=q;rw[ht]at h;obtain⟨h1,_,_,_,_,h2⟩:=Z3 ht;cases b with
  |leaf x=>
   have:=ZqV h0 (Ztr h2.symm) h (by grind[tA]);rwa [ZnF h2.symm]at this
  |node x=>cases h
  |cc x=>cases h
  |queue x=>cases h
  |dir x=>cases h
  |none=>cases h
def Uv {K:bL} (h0:0<=K.sup.used) {cJ x5:Int} (hc:K.sup.used<=cJ*7): ∀ {x:ak} {k:Int} {v v':aS},kD K cJ x5 k x v=some v'->tA K v ((x5*16+k)*7)->tA K v' ((x5*16+k+x.length)*7)
 |[],_,_,_,h,ha=>by cases h;simpa using ha
 |y::r,k,v,v',h,ha=>by
  unfold kD at h;have e:(x5*16+k+((y::r).length:Int))*7=(x5*16+(k+1)+r.length)*7:=by simp;omega
  rw[e];cases h1:((!(y==0))==decide (x5*16+k<cJ))with
  |false=>rw[h1]at h;cases h
  |true=>
   rw[h1,ae]at h;cases h2:(!(y==0))with
   |false=>
    rw[h2]at h h1;have hk: ¬(x5*16+k<cJ):=by
     grind
    refine Uv h0 hc h ⟨?_,ha.2⟩;rw[ha.1];split<;>split<;>omega
   |true=>
    rw[h2,ae]at h;cases h3:mY K y ((x5*16+k)*7) v with
    |none=>rw[h3]at h;cases h
    |some w=>
     rw[h3]at h;have:=Zyl h0 h3 ha;rw[show(x5*16+k)*7+7=(x5*16+(k+1))*7 by omega]at this;exact Uv h0 hc h this
def T7 {x:ak} (h:iM l=some x):x.length=16:=by
 unfold iM at h;split at h
 .cases h
 .rename_i k t b _
  cases e:(decide (k=3)&&(decide (t=0)&&ZE (b.drop 32)))with
  |false=>rw[e]at h;cases h
  |true=>
   rw[e]at h;cases e2:BC (dU b 16)with
   |false=>rw[e2]at h;cases h
   |true=>rw[e2]at h;cases h;exact nW b 16
def ZoY {x:ak} (h:ZY l= .cc x):x.length=16:=by
 unfold ZY at h;split at h
 .cases h
 .split at h
  .cases h
  .split at h
   .rename_i e;cases h;exact T7 e
   grind
def Uq {K:bL} (h0:0<=K.sup.used) {cJ:Int} (hc:K.sup.used<=cJ*7): ∀ {x:ak} {k:Int} {v v':aS},od K cJ k x v=some v'->tA K v (k*112)->tA K v' ((k+x.length)*112)
 |[],_,_,_,h,ha=>by cases h;simpa using ha
 |y::r,k,v,v',h,ha=>by
  unfold od at h;have e:(k+((y::r).length:Int))*112=(k+1+r.length)*112:=by simp;omega
  rw[e];cases h1:((!(y==0))==decide (k*16<cJ))with
  |false=>rw[h1]at h;cases h
  |true=>
   rw[h1,ae]at h;cases h2:(y==0)with
   |true=>
    rw[h2]at h h1;have hk: ¬(k*16<cJ):=by
     grind
    refine Uq h0 hc h ⟨?_,ha.2⟩;rw[ha.1];split<;>split<;>omega
   |false=>
    rw[h2,af]at h;cases ht:dN K y v with
    |none=>rw[ht]at h;cases h
    |some q=>
     obtain⟨b,v1⟩:=q;rw[ht]at h;obtain⟨g1,_,_,_,_,g2⟩:=Z3 ht;cases b with
     |leaf x=>cases h
     |node x=>cases h
     |queue x=>cases h
     |dir x=>cases h
     |none=>cases h
     |cc x2=>
      simp only at h;cases h3:kD K cJ k 0 x2 v1 with
      |none=>rw[h3]at h;cases h
      |some w=>
       rw[h3]at h;have hb:=ZoY g2.symm;have:=Uv h0 hc h3 (by grind[tA]);rw[hb,show(k*16+0+((16:Nat):Int))*7=(k+1)*112 by omega]at this;exact Uq h0 hc h this
def ZvO (h0:0<=u) (h1:u<=1792):u<=BF u*7:=by
 unfold BF rJ;rw[ax (show u>=0 from h0),ax h1,vO,ae,Zc (x:=u+7),Zc (x:=u+7-1)];obtain⟨k,rfl⟩: ∃k:Nat,u=k:=⟨u.toNat,by omega⟩;rw[show(((k:Nat):Int)+7-1)=((k+6:Nat):Int) by omega,show(((k+6:Nat):Int).tdiv 7)=(((k+6)/7:Nat):Int)from rfl,Zc];omega
def ZqM (h0:0<=K.sup.used) (h1:K.sup.used<=1792) (hv:v.aG=[]) (h:nY K v=some v'):(v'.aG.length:Int)=K.sup.used/\∀x∈v'.aG,ZK x=true:=by
 unfold nY at h;cases hu:(K.sup.used==0)with
 |true=>
  rw[hu]at h;grind
 |false=>
  rw[hu,af]at h;cases ht:dN K K.sup.cc v with
  |none=>rw[ht]at h;cases h
  |some q=>
   obtain⟨b,v1⟩:=q;rw[ht]at h;obtain⟨g1,_,_,_,_,g2⟩:=Z3 ht;cases b with
   |leaf x=>cases h
   |node x=>cases h
   |queue x=>cases h
   |dir x=>cases h
   |none=>cases h
   |cc x=>
    have:=Uq h0 (ZvO h0 h1) h (by grind[tA]);rw[ZoY g2.symm]at this;have h2:=this.1;refine⟨?_,this.2⟩;rw[h2];split<;>omega
def nl (K:bL):Nat->List Bool->Int->aS->Option (List Bool×aS)
 |0,_,_,_=>none
 |f+1,fl,next,v=>bif next==0 then some (fl,v)else(bif decide (next<=K.sup.used)then
   (match v.aG[(next-1).toNat]? with
   |none=>none
   |some x=>bif (bif (bif !x.live then decide (x.gen<K.sup.g)else false)then !fl.getD (next-1).toNat false else false)then nl K f (fl.set (next-1).toNat true) x.block { v with free:=v.free++[next-1] } else none)
  else none)
def DS (K:bL) (b:Bool) (x:bw):Bool:=bif (bif x.live then true else x.gen==K.sup.g)then true else b
def qO (K:bL):List Bool->List bw->Bool
 |_,[]=>true
 |fl,x::r=>DS K (fl.getD 0 false) x&&qO K (fl.drop 1) r
def BG (K:bL):Option (List Bool×aS)->Option aS
 |none=>none
 |some (fl,v)=>bif qO K fl v.aG then some v else none
def sB (K:bL) (v:aS):Option aS:=BG K (nl K (K.sup.used.toNat+1) (List.replicate K.sup.used.toNat false) K.sup.free v)
def Zwt: ∀ {l:List Bool} {k:Nat},l.getD k true=false->(l.set k true).count false+1=l.count false
 |[],k,h=>by simp at h
 |b::l,0,h=>by
  grind
 |b::l,k+1,h=>by
  grind
def bm.cH {a:ai} (h:bm [] s a cs) (hn:0<cs.length): ∃b,a=some (b,0)/\s[b]? =some (some ⟨false,cs⟩):=by
 rcases h.2 with⟨_,rfl⟩|⟨i,rfl,_,h3⟩
 .cases hn
 grind
def Mf {b:Nat} {l:List bw} {x:bw} {k:Nat} (h:s[b]? =some (some ⟨false,bT l⟩)) (hx:l[k]? =some x) (Kc:ah->M β):bS b (k*3+0) 3 Kc s=Kc (eL x) s:=by
 have hk:k<l.length:=by grind
 rw[gV,jL h (by rw[ZB];omega),Mt hx]
def Zzw {Bd:Zh} (hM:HA Bd) (n:Nat) (i1:Nat) (fl:List Bool) (s0:St) (L0:al) (R:Option aS) (hW:Wk K s v L) (hf:s[i1]? =some (some ⟨false,fl.map .bool⟩)) (hl:fl.length=v.aG.length) (hlen:v.aG.length<2000) (cL:Fx L0 s0 s) (gX:Nw L0 s0 L) (hR:BG K (some (fl,v))=R) (X:Nat) (hX:X=v.aG.length) (hn:2010<=n):
  Ok (rX K s0 L0 R []) ((bH (some (K.w,0)) λi3 o2=>
  bD i3 (o2+11) λd2=>
  dr 3 d2 λx2 cW=>
  cK (λst=>
   aL st<|
   ay []) λaI=>
  cS (λaV st=>
   aD .i64 st λx3 st=>
   aL st<|
   bif decide (x3<(cW:Int))then
    bH x2 λi4 o3=>
    aC (aR x3 cW)<|
    bS i4 (x3.toNat*3+o3) 3 λcs=>
    gC cs λx4 r=>
    aD .i64 r λx5 r=>
    aD .i64 r λ_x6 r=>
    aL r<|
    cK (λst=>gC st λb1 st=>aL st<|
     cK (λst=>gC st λb2 st=>aL st<|
      cQ (run Bd n 225 [.bool b2]) λds=>
      aL ds<|
      aV [.int .i64 (ar (x3+1))]) λbz=>
     bif b1 then
      bz [.bool true]
     else
      aC (aR x3 X)<|
      bD i1 (x3.toNat*1) λd3=>
      tJ d3 λx7=>
      bz [.bool x7]) λaW=>
    bif x4 then
     aW [.bool true]
    else
     bH (some (K.w,0)) λi5 o4=>
     bD i5 (o4+4) λd4=>
     cY .i64 d4 λx8=>
     aW [.bool (x5==x8)]
   else
    aI []) n [.int .i64 0]) s):=by
 subst hX;obtain⟨n,rfl⟩: ∃k,n=k+1:=⟨n-1,by omega⟩;obtain⟨z1,p1,z2,p2,z3,p3,z4,p4,hd,hW⟩:=hW;rw[bd,Zo hW.cell rfl];show Ok _ (dr 3 (.slice z1 p1 v.aG.length) _ s);rw[Z2 3 z1 p1 _ hW.e1];simp only[Za];refine Zi _ (λq y t=>∃i:Nat,y=[.int .i64 i]/\i<=v.aG.length/\v.aG.length-i<=q/\t=s/\(bif qO K (fl.drop i) (v.aG.drop i)then some v else none)=R) ?_ v.aG.length (n+1) _ _ ⟨0,rfl,cz _,by omega,rfl,hR⟩ (by omega);rintro q _ t ⟨i,rfl,hi,hq,rfl,aP⟩ rec aN;simp only[av,aq];by_cases aw:i<v.aG.length
 .obtain⟨b,rfl,hb⟩:=hW.o1.cH (by rw[ZB];omega)
  have mX:v.aG[i]? =some v.aG[i]:=cq aw;have fW:v.aG.drop i=v.aG[i]::v.aG.drop (i+1):=iV aw;have GF:fl[i]? =some (fl[i]'(by omega)):=by grind
  rw[ax (show(i:Int)<(v.aG.length:Int) by omega),ae,bd,Zb (Zj aw),bp,Mf hb mX];rw[fW]at aP;unfold qO at aP;rw[kV,show(fl.drop i).getD 0 false=fl[i]'(by omega) by rw[dW,Bc,gV,GF];rfl]at aP;generalize v.aG[i]=x at aP;unfold eL;simp only[au,av,aq,bd];have j4:ar ((i:Int)+1)=((i+1:Nat):Int):=Zc;rw[j4];have ny:Ok (rX K s0 L0 R []) (cQ (run Bd (n+1) 225 [.bool (DS K (fl[i]'(by omega)) x)]) (λds=>aL ds<|rec [.int .i64 ((i+1:Nat):Int)]) t):=by
   cases h0:DS K (fl[i]'(by omega)) x with
   |true=>
    rw[h0,dF]at aP;rw[tr hM n rfl];simp only[aq];exact aN (v.aG.length-(i+1)) _ _ (by omega) (by grind)
   |false=>
    rw[h0,gf,af]at aP;rw[oN hM n rfl,<-aP];exact .mk ⟨t,rfl,cL⟩
  unfold DS at ny;have GO: ∀Kc:DV->M ah,bD i1 (i*1) Kc t=Kc (.bool (fl[i]'(by omega))) t:=λKc=>Zo hf (by rw[cR,th,GF];rfl) Kc
  have p9: ∀Kc:DV->M ah,bD K.w (0+4) Kc t=Kc (.int .i64 K.sup.g) t:=λKc=>Zo hW.cell rfl Kc
  cases eN:x.live with
  |true=>
   grind
  |false=>
   simp only[eN,af]at ny;rw[af,p9];simp only[bg];cases hg:(x.gen==K.sup.g)with
   |true=>
    grind
   |false=>
    simp only[hg,af]at ny;rw[af,Zb (Zj aw),GO];simp only[tm];exact ny
 .rw[aF (show ¬(i:Int)<(v.aG.length:Int) by omega),af]
  rw[Zd];rw[lU (as:=v.aG) (by omega)]at aP;have Ay:some v=R:=aP;rw[<-Ay];exact .mk ⟨t,L,rfl,hW.wk,cL,gX⟩
def ZyW (n:Nat) (hW:Wk K s v L) (h0:0<=K.sup.used) (h1:K.sup.used<=1792) (vm:0<=K.sup.free) (hs:(v.aG.length:Int)=K.sup.used) (hr: ∀x∈v.aG,ZK x=true) (hh:v.aM=[]) (dS:v.free=[]) (hn:2100<=n):
  Ok (rX K s L (sB K v) []) (run Bd n 230 [.ptr (some (K.w,0))] s):=by
 obtain⟨n,rfl⟩: ∃k,n=k+2:=⟨n-2,by omega⟩;rw[Ze,h.aeY];unfold Qj jh Zm Q_ cM N_ qI aA C_ qQ Lb Li aZ sB;simp only[eH,aq];rw[bd];obtain⟨z1,p1,z2,p2,z3,p3,z4,p4,hd,hW⟩:=hW;rw[Zo hW.cell rfl];simp only[bg];rw[Zb (by rw[aY,aY,bu,bu,bu];omega),Zz,FW];have ou:=aB.new s (some (⟨false,List.replicate K.sup.used.toNat (.bool false)⟩:bO));have abo:(s++[some (⟨false,List.replicate K.sup.used.toNat (.bool false)⟩:bO)])[s.length]? =some (some ⟨false,(List.replicate K.sup.used.toNat false).map .bool⟩):=by simp
 have sF:=hW.pre ou;have abh:=sF.cell;generalize s++[some (⟨false,List.replicate K.sup.used.toNat (.bool false)⟩:bO)]=s0 at ou abo sF abh;rw[bd,Zo abh rfl];simp only[bg];rw[Za];obtain⟨R,hR⟩: ∃R,BG K (nl K (K.sup.used.toNat+1) (List.replicate K.sup.used.toNat false) K.sup.free v)=R:=⟨_,rfl⟩;rw[hR];have hX:K.sup.used.toNat=v.aG.length:=by omega
 have JI:s.length∉L:=λhm=>by have:=hW.lt _ hm;omega
 refine Zi _ (λq y t=>∃(f:Nat) (fl:List Bool) (next:Int) (u:aS) (Lu:al),y=[.int .i64 next]/\0<=next/\fl.length=v.aG.length/\fl.count false<=q/\fl.count false<f/\Wk K t u Lu/\u.aG=v.aG/\u.aM=[]/\u.free.length+fl.count false<=v.aG.length/\t[s.length]? =some (some ⟨false,fl.map .bool⟩)/\s.length∉Lu/\Fx L s t/\Nw L s Lu/\BG K (nl K f fl next u)=R) ?_ v.aG.length (n+1) _ _ ⟨K.sup.used.toNat+1,_,K.sup.free,v,L,rfl,vm,by simp[hX],by simp[hX],by simp,sF.wk,rfl,hh,by simp[dS,hX],abo,JI,Fx.pre L ou,.refl L s,hR⟩ (by omega);rintro q _ t ⟨f,fl,next,u,Lu,rfl,GR,ep,hcq,yq,dZ,jc,uh,huf,wL,hiL,cL,gX,aP⟩ rec aN;simp only[av,aq];obtain⟨f,rfl⟩: ∃k,f=k+1:=⟨f-1,by omega⟩;unfold nl at aP;cases hz:(next==0)with
 |true=>
  rw[hz,ae]at aP;rw[br,af];exact Zzw h (n+1) s.length fl s L R dZ wL (by rw[jc];exact ep) (by rw[jc];omega) cL gX aP K.sup.used.toNat (by rw[jc];exact hX) (by omega)
 |false=>
  rw[hz,af]at aP;rw[bn,ae];have Eh:next≠0:=by grind
  obtain⟨z1,p1,z2,p2,z3,p3,z4,p4,hd,dZ⟩:=dZ;rw[bd,Zo dZ.cell rfl];simp only[bg];cases hle:decide (next<=K.sup.used)with
  |false=>
   rw[hle,af]at aP;rw[oN h n rfl];have Ay:none=R:=aP;rw[<-Ay];exact .mk ⟨t,rfl,cL⟩
  |true=>
   have akd:=mI hle;rw[hle,ae]at aP;rw[tr h n rfl];simp only[aq];obtain⟨k,hk⟩: ∃k:Nat,next-1=k:=⟨(next-1).toNat,by omega⟩;have fY:k<u.aG.length:=by rw[jc];omega
   have cG:ar (next-1)=(k:Int):=by rw[Zc,hk]
   rw[hk,bp]at aP;simp only[cG,bp];rw[bd,Zo dZ.cell rfl];show Ok _ (dr 3 (.slice z1 p1 u.aG.length) _ t);rw[Z2 3 z1 p1 _ dZ.e1];obtain⟨b,rfl,hb⟩:=dZ.o1.cH (by rw[ZB];omega);have mX:u.aG[k]? =some u.aG[k]:=cq fY;have vz:=hr u.aG[k] (by rw[<-jc];grind);rw[bd,Zb (Zj fY),Mf hb mX];rw[mX]at aP;simp only at aP;generalize u.aG[k]=x at aP vz;unfold eL;simp only[au,av,aq,Za,bd];have Xh:fl[k]? =some (fl[k]'(by omega)):=by grind
   rw[show fl.getD k false=fl[k]'(by omega) by rw[dW,Xh];rfl]at aP;have p9: ∀Kc:DV->M ah,bD K.w (0+4) Kc t=Kc (.int .i64 K.sup.g) t:=λKc=>Zo dZ.cell rfl Kc
   have GO: ∀Kc:DV->M ah,bD s.length (k*1) Kc t=Kc (.bool (fl[k]'(by omega))) t:=λKc=>Zo wL (by rw[cR,th,Xh];rfl) Kc
   cases eN:x.live with
   |true=>
    simp only[eN,br,af]at aP;rw[br,af];simp only[af];rw[oN h n rfl];have Ay:none=R:=aP;rw[<-Ay];exact .mk ⟨t,rfl,cL⟩
   |false=>
    simp only[eN,bn,ae]at aP;rw[bn,ae,p9];simp only[bg];cases hg:decide (x.gen<K.sup.g)with
    |false=>
     simp only[hg,af]at aP;simp only[af];rw[oN h n rfl];have Ay:none=R:=aP;rw[<-Ay];exact .mk ⟨t,rfl,cL⟩
    |true=>
     simp only[hg,ae]at aP;simp only[ae];rw[hX,<-jc,Zb (Zj fY),GO];simp only[tm];cases Xi:fl[k]'(by omega)with
     |true=>
      simp only[Xi,br,af]at aP;rw[br,oN h n rfl];have Ay:none=R:=aP;rw[<-Ay];exact .mk ⟨t,rfl,cL⟩
     |false=>
      simp only[Xi,bn,ae]at aP;rw[bn,tr h n rfl];simp only[aq];rw[Zb (Zj fY),qD wL (by simp;omega)];have dh:(fl.map DV.bool).set (k*1) (.bool true)=(fl.set k true).map DV.bool:=by rw[cR,List.map_set]
      rw[dh];have Xl:=Fx.set t s.length (some (⟨false,(fl.set k true).map DV.bool⟩:bO));have ahK:lG [s.length] K.a:=λb o e hm=>by
       have aw:=Sl.lt (e▸hW.img);rw[cB.1 hm]at aw;omega
      have N2:=dZ.j5 Xl (by grind) ahK (by
       have:=dZ.aM;rw[uh]at this⊢;exact this)
      have abq:(t.set s.length (some (⟨false,(fl.set k true).map DV.bool⟩:bO)))[s.length]? =some (some ⟨false,(fl.set k true).map .bool⟩):=by grind
      have Xm:Fx L s (t.set s.length (some (⟨false,(fl.set k true).map DV.bool⟩:bO))):=cL.step Xl λy hy=> .inr (by rw[cB.1 hy];exact aQ _)
      generalize t.set s.length (some (⟨false,(fl.set k true).map DV.bool⟩:bO))=t1 at Xl N2 abq Xm;rw[Zo N2.cell rfl];show Ok _ (dr 1 (.slice z4 p4 u.free.length) _ t1);rw[Z2 1 z4 p4 _ N2.e4];have mT:=Zwt (l:=fl) (k:=k) (by rw[dW,Xh,Xi];rfl);obtain⟨b2,t2,t3,L3,g1,g2,g3,g4,g5,g6⟩:=N2.aji (β:=ah) (k:Int) (by omega);have aks:s.length<t1.length:=by grind
      refine Eq.mpr (congrArg (Ok _) (g1 _)) ?_;refine Eq.mpr (congrArg (Ok _) (g2 _)) ?_;have hblk:0<=x.block:=by
       unfold ZK at vz;rw[eN,af,aY,aY]at vz;have h2:=vz.2.1;unfold lg at h2;by_cases ym:x.block>=0
       .exact ym
       grind
      refine aN ((fl.set k true).count false) _ _ (by omega) ⟨f,fl.set k true,x.block,_,L3,rfl,hblk,by simpa using ep,aQ _,by omega,g3.wk,jc,uh,by simp;omega,?_,?_,Xm.step g4 gX,gX.trans Xm.1 g5,aP⟩
      .refine g4.2 _ _ hiL abq
      .intro hm
       rcases g5 _ hm with e|e
       .exact hiL e
       .omega
def ui (v:aS):aS:= { v with aK:=v.aK++v.aG.map (·.gen) }
def yM (v:aS):Nat:=(v.aG.filter (·.live)).length
def ZzO (n:Nat) (hW:Wk K s v L) (hl:v.aG.length<2000) (hg:v.aK.length<100000) (hn:2010<=n):
  Ok (λo=>∃s' L',o=(.val [.int .i64 (yM v:Nat)],s')/\Wk K s' (ui v) L'/\Fx L s s'/\Nw L s L') (run Bd n 234 [.ptr (some (K.w,0))] s):=by
 obtain⟨n,rfl⟩: ∃k,n=k+1:=⟨n-1,by omega⟩;rw[Ze,h.ae2];unfold Qw jh oL iX N_ qI Li aZ gJ;simp only[eH,aq,bd,Za];obtain⟨z1,p1,z2,p2,z3,p3,z4,p4,hd,hW⟩:=hW;rw[Zo hW.cell rfl];show Ok _ (dr 3 (.slice z1 p1 v.aG.length) _ s);rw[Z2 3 z1 p1 _ hW.e1];refine Zi _ (λq y t=>∃(i:Nat) (z3:Nat) (p3:ai) (Lu:al),y=[.int .i64 (((v.aG.take i).filter (·.live)).length:Nat),.int .i64 i]/\i<=v.aG.length/\v.aG.length-i<=q/\eD K t { v with aK:=v.aK++(v.aG.take i).map (·.gen) } Lu z1 p1 z2 p2 z3 p3 z4 p4 hd/\Fx L s t/\Nw L s Lu) ?_ v.aG.length n _ _ ⟨0,z3,p3,L,rfl,cz _,by omega,by simpa using hW,.refl L s,.refl L s⟩ (by omega);rintro q _ t ⟨i,z3,p3,Lu,rfl,hi,hq,dZ,fK,jX⟩ rec aN;simp only[av,aq];by_cases aw:i<v.aG.length
 .obtain⟨b,rfl,hb⟩:=dZ.o1.cH (by rw[ZB];grind)
  have mX:v.aG[i]? =some v.aG[i]:=cq aw;have fZ:v.aG.take (i+1)=v.aG.take i++[v.aG[i]]:=lV aw;rw[ax (show(i:Int)<(v.aG.length:Int) by omega),ae,bd,Zb (Zj aw),bp,Mf hb mX];generalize v.aG[i]=x at fZ;unfold eL;simp only[au,av,aq];rw[Zo dZ.cell rfl];show Ok _ (dr 1 (.slice z3 p3 (v.aK++(v.aG.take i).map (·.gen)).length) _ t);rw[Z2 1 z3 p3 _ dZ.e3];have jm:(v.aK++(v.aG.take i).map (·.gen)).length<1000000:=by
   rw[bB,nQ,cX];omega
  obtain⟨b2,t2,t3,L3,g1,g2,g3,g4,g5,g6⟩:=dZ.ajj (β:=ah) x.gen jm;refine Eq.mpr (congrArg (Ok _) (g1 _)) ?_;refine Eq.mpr (congrArg (Ok _) (g2 _)) ?_;have j4:ar ((i:Int)+1)=((i+1:Nat):Int):=Zc;have ep:((v.aG.take i).filter (·.live)).length<=i:=by grind
  have pC:ar (((((v.aG.take i).filter (·.live)).length:Nat):Int)+1)=((((v.aG.take i).filter (·.live)).length+1:Nat):Int):=Zc;rw[j4,pC];have wN:eD K t3 { v with aK:=v.aK++(v.aG.take (i+1)).map (·.gen) } L3 z1 (some (b,0)) z2 p2 1 (some (b2,0)) z4 p4 hd:=by
   rw[fZ,fA,<-fI];exact g3
  cases eN:x.live with
  |true=>
   rw[ae];exact aN (v.aG.length-(i+1)) _ _ (by omega) ⟨i+1,1,some (b2,0),L3,by rw[fZ,EV];simp[eN],by omega,aQ _,wN,fK.step g4 jX,jX.trans fK.1 g5⟩
  |false=>
   rw[af];exact aN (v.aG.length-(i+1)) _ _ (by omega) ⟨i+1,1,some (b2,0),L3,by rw[fZ,EV];simp[eN],by omega,aQ _,wN,fK.step g4 jX,jX.trans fK.1 g5⟩
 .rw[aF (show ¬(i:Int)<(v.aG.length:Int) by omega),af]
  simp only[Zd];rw[dG (by omega)]at dZ⊢;exact .mk ⟨t,Lu,rfl,dZ.wk,fK,jX⟩
end Go.Gv.F
