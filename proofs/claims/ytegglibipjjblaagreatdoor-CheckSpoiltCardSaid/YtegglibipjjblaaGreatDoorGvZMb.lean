/- A block of an image, taken once: the walker's first steps. -/
import Derived.Test.YtegglibipjjblaaGreatDoorGvZMa
set_option linter.all false
namespace Go.Gv.F
open Go.Gv
variable {β:Type}
variable {k slot u:Int} {i j lim m n z:Nat} {s s':St} {α:Type} {cs:ah} {l:aj} {A C L L' L'' T W W':al}
theorem ZyS {m:M α} {K:α->M β} (h:m s=some (.fy,s')):cV m K s=some (.fy,s'):=by unfold cV;rw[h]
theorem Ok.wW {P:Out α×St->Prop} {Q:Out β×St->Prop} {m:M α} {K:α->M β} (h:Ok P (m s))
  (k1: ∀s',P (.fy,s')->Q (.fy,s')) (k2: ∀ds s',P (.val ds,s')->Ok Q (K ds s')):Ok Q (cV m K s):=by
 have⟨⟨o,s'⟩,e,hp⟩:=h;unfold cV;rw[e];cases o with
 |val ds=>exact k2 ds s' hp
 |fy=>exact .mk (k1 s' hp)
theorem Mk (p:ai) (K:ai->M β):Cv (.ptr p) K=K p:=rfl
theorem Zyb (s:St):Z2 s.length s=s:=by unfold Z2;simp
variable {Bd:Zh} [h:HA Bd]
theorem Zvt (n:Nat) (b:Bool) (st:St):run Bd (n+1) 225 [.bool b] st=some (bif b then(.val [],st)else(.fy,st)):=by
 rw[Ze,h.afU];unfold Ur js Q_
 try dsimp only
 rw[au,aq,Za];cases b<;>rfl
theorem ue {Bd:Zh} (h:HA Bd) (n:Nat) {b:Bool} (hb:b=true) (st:St) (K:ah->M β):cV (run Bd (n+1) 225 [.bool b]) K st=K [] st:=by
 rw[hb];exact Zk (Zvt n true st)
theorem pD {Bd:Zh} (h:HA Bd) (n:Nat) {b:Bool} (hb:b=false) (st:St) (K:ah->M β):cV (run Bd (n+1) 225 [.bool b]) K st=some (.fy,st):=by
 rw[hb];exact ZyS (Zvt n false st)
def ZG (img:aj) (k:Nat):aj:=(img.drop (k*64)).take 64
theorem ZmS (n:Nat) (a:ai) (len k:Nat) (st:St) (hl:len<1000000) (hk:(k+1)*64<=len:=by omega):
  run Bd (n+1) 203 [.slice 1 a len,.i k] st=some (.val [.slice 1 (cK true a (k*64)) 64],st):=by
 rw[Ze,h.afA];unfold Uh oq ba
 try dsimp only
 rw[aV,av,aq,ZJ];have h1:ar ((k:Int)+1)=((k+1:Nat):Int):=Zc;have h2:ar (((k+1:Nat):Int)*64)=(((k+1)*64:Nat):Int):=by rw[Zc];omega
 have h3:ar ((k:Int)*64)=((k*64:Nat):Int):=by rw[Zc];omega
 simp only[h1,h2,h3,br,cS];rw[Zb (by rw[aY,bn,bn];omega),Zb (by rw[aY,bn,bn];omega),Zp,Zyb,show(k+1)*64-k*64=64 by omega]
inductive xW where
 |node (x:jV)
 |leaf (x:List bB)
 |cm (x:ak)
 |queue (x:ZH)
 |dir (x:ak)
 |none
def ZX (l:aj):xW:=
 match jf l with
 |some x=> .node x
 |none=>match ZO l with
  |some x=> .leaf x
  |none=>match iU l with
   |some x=> .cm x
   |none=>match ZL l with
    |some x=> .queue x
    |none=>match lG l with
     |some x=> .dir x
     |none=> .none
def QK (s:St):xW->DV->Prop
 | .node x,d=>∃p,d= .iface 6 (.agg (oP x 1 p))/\Fz s p (ints x.kids)/\pH x=true/\x.kids.length<=12
 | .leaf x,d=>d= .iface 5 (.agg (ca x))/\x.length=7
 | .cm x,d=>d= .iface 2 (.agg (ints x))/\x.length=16
 | .queue x,d=>d= .iface 4 (.agg (Z1 x))/\x.dH.length=12
 | .dir x,d=>∃p,d= .iface 3 (.agg [.slice 1 p x.length])/\Fz s p (ints x)/\x.length<=16
 | .none,d=>d= .nilIface
theorem IM {x:List bB} (h:ZO l=some x):x.length=7:=by
 unfold ZO at h;split at h
 .cases h
 .rename_i k t b _
  cases e:(decide (k=2)&&decide (t<128))with
  |false=>rw[e]at h;cases h
  |true=>
   rw[e]at h;cases e2:(ZU b t 7).all ZN with
   |false=>rw[e2]at h;cases h
   |true=>rw[e2]at h;cases h;exact B5 b t 7
theorem Zr1 (n:Nat) (a:ai) (l:aj) (st:St) (ha:c9 st a l) (hl:l.length<1000000) (hn:161<=n):
  Ok (λo=>∃d s',o=(.val [d],s')/\aA st s'/\QK s' (ZX l) d) (run Bd n 256 [.slice 1 a l.length] st):=by
 obtain _|n:=n;omega;rw[Ze,h.agp];unfold TA bZ Ge js ba ZX
 try dsimp only
 rw[aV,aq];refine Ok.call (ZuN n a l st ha hl AC) ?_;rintro _ ⟨s1,aD,sb⟩;cases oG:jf l with
 |some x=>
  rw[oG]at sb;obtain⟨p,rfl,hf⟩:=sb;refine⟨_,s1,rfl,?_⟩;unfold oP fk;simp only[od,iG,da,av,aV,au,aq,ae,Zd];exact .mk ⟨_,s1,rfl,aD,p,rfl,hf,(M6 oG).1,(M6 oG).2⟩
 |none=>
 rw[oG]at sb;subst sb;refine⟨_,s1,rfl,?_⟩;simp only[da,av,au,aq,Zf 1 0 none _ (.inr rfl),af];have uC:=ha.mono aD;refine Ok.call (Zpl n a l s1 uC hl AC) ?_;rintro _ ⟨s2,aU,dj⟩;cases qG:ZO l with
 |some x=>
  rw[qG]at dj;subst dj;refine⟨_,s2,rfl,?_⟩;have hlen:(ca x).length=21:=by rw[ZB,IM qG]
  rw[da,au,aq,ae,bK hlen,bK hlen,Zd];exact .mk ⟨_,s2,rfl,aD.trans aU,rfl,IM qG⟩
 |none=>
 rw[qG]at dj;subst dj;refine⟨_,s2,rfl,?_⟩;rw[da,au,aq,af,bK (cs:=ca nS) (n:=21) rfl,bK (cs:=ca nS) (n:=21) rfl];have AV:=uC.mono aU;refine Ok.call (Zqp n a l s2 AV hl AC) ?_;rintro _ ⟨s3,cz,kY⟩;cases Kq:iU l with
 |some x=>
  rw[Kq]at kY;obtain⟨rfl,hx⟩:=kY;refine⟨_,s3,rfl,?_⟩;have hlen:(ints x).length=16:=by simp[ints,hx]
  rw[da,au,aq,ae,bK hlen,bK hlen,Zd];exact .mk ⟨_,s3,rfl,(aD.trans aU).trans cz,rfl,hx⟩
 |none=>
 rw[Kq]at kY;subst kY;refine⟨_,s3,rfl,?_⟩;rw[da,au,aq,af,bK (cs:=ints (List.replicate 16 0)) (n:=16) rfl,bK (cs:=ints (List.replicate 16 0)) (n:=16) rfl];have ha3:=AV.mono cz;refine Ok.call (Znz n a l s3 ha3 hl AC) ?_;rintro _ ⟨s4,fe,oI⟩;cases hg4:ZL l with
 |some x=>
  rw[hg4]at oI;obtain⟨rfl,hx⟩:=oI;refine⟨_,s4,rfl,?_⟩;have hlen:(ints x.dH).length=12:=by simp[ints,hx]
  unfold Z1;rw[da,bT,av,au,aq,ae,bK hlen,bK (by simp[hlen]),Zd];exact .mk ⟨_,s4,rfl,((aD.trans aU).trans cz).trans fe,rfl,hx⟩
 |none=>
 rw[hg4]at oI;subst oI;refine⟨_,s4,rfl,?_⟩;unfold Z1;rw[da,bT,av,au,aq,af,bK (cs:=ints Em.dH) (n:=12) rfl,bK (n:=14) rfl];have ha4:=ha3.mono fe;refine Ok.call (ZoK n a l s4 ha4 hl AC) ?_;rintro _ ⟨s5,kb,oJ⟩;cases hg5:lG l with
 |some x=>
  rw[hg5]at oJ;obtain⟨p,rfl,hf,hx⟩:=oJ;refine⟨_,s5,rfl,?_⟩;simp only[da,aV,au,aq,ae,Zd];exact .mk ⟨_,s5,rfl,(((aD.trans aU).trans cz).trans fe).trans kb,p,rfl,hf,hx⟩
 |none=>
 rw[hg5]at oJ;subst oJ;refine⟨_,s5,rfl,?_⟩;simp only[da,Zf 1 0 none _ (.inr rfl),au,aq,af,Zd];exact .mk ⟨_,s5,rfl,(((aD.trans aU).trans cz).trans fe).trans kb,rfl⟩
def fW (m:Nat) (W:al) (k:Int):Bool:=decide (k>=2)&&(fN m k&& !du W k.toNat)
theorem Zzr {Bd:Zh} (h:HA Bd) (n w:Nat) (a:ai) (img:aj) (k:Int) (st:St)
  (hw:st[w]? =some (some ⟨false,cs⟩)) (h0:cs[0]? =some (.slice 1 a img.length)) (h2:cs[2]? =some (.i m)) (OL:cs[10]? =some (.ptr (some (i,0))))
  (hs:gJ st false i j m W) (mI:i≠j) (hjw:w≠j) (ha:c9 st a img) (EX:lW [j] a) (hm:m*64<=img.length) (hl:img.length<1000000) (hn:170<=n):
  Ok (λo=>bif fW m W k then ∃d s',o=(.val [d],s')/\Fx [j] st s'/\gJ s' false i j m (bN m W k)/\QK s' (ZX (ZG img k.toNat)) d else o=(.fy,st)) (run Bd n 228 [.ptr (some (w,0)),.i k] st):=by
 obtain⟨n,rfl⟩: ∃k,n=k+4:=⟨n-4,AC⟩;rw[Ze,h.afX];unfold Rn ql az C_ il vd bu Zm Lb Li ep ba iI fW;simp only[eO,av,aq,Za,bc];by_cases jy:k>=2;rotate_left
 .rw[bM jy,af]
  simp only[au,aq,af,gu];rw[pD h (n+2) rfl];exact .mk rfl
 rw[aS jy,ae,Zo hw h2];simp only[bj,au,aq,dL];have acB:fN m k=decide (k<(m:Int)):=by grind[fN]
 rw[acB];by_cases vV:k<(m:Int);rotate_left
 .rw[bM vV,af]
  simp only[gu,af];rw[pD h (n+2) rfl];exact .mk rfl
 rw[aS vV,ae,Zo hw OL,Mk,dL,Zk (ZnE (n+1) k st hs),acB,aS vV,dL,au,aq];cases gT:du W k.toNat with
 |true=>
  simp only[bw,af];rw[pD h (n+2) rfl];exact .mk rfl
 |false=>
  simp only[bp,ae];rw[ue h (n+2) rfl,aq,Zo hw OL,Mk,Zz];have aD:=aA.new st (some (⟨false,[DV.int .i64 k]⟩:bO));have eY:Sl (st++[some (⟨false,[DV.int .i64 k]⟩:bO)]) (some (st.length,0)) (ints [k]):=Oe st [DV.int .i64 k];have dI:lW [j] (some (st.length,0)):=by
   intro b o e hb;cases e;have:=(eB.1 hs.wd).1;rw[cE.1 hb]at this;omega
  generalize st++[some (⟨false,[DV.int .i64 k]⟩:bO)]=s1 at aD eY;have lf:=hs.pre aD;have ab1:=IQ (n+3) [k] (some (st.length,0)) s1 lf mI eY dI Do (by simp;omega);rw[show[k].length=1 from rfl]at ab1;rw[Zk ab1,aq];have acW:=lf.add mI (bN m W k) (pC _ _ _) (WL lf.lt);have cU:Fx [j] st (s1.set j (some ⟨false,Zv (bN m W k)⟩)):=(Fx.pre [j] aD).trans (Fx.set s1 j _);have e1:[k].foldl (bN m) W=bN m W k:=rfl;rw[e1];generalize s1.set j (some ⟨false,Zv (bN m W k)⟩)=s2 at acW cU;have fY:=cU.2 w _ (by simpa using hjw) hw;have AV:c9 s2 a img:=Sl.fx ha cU EX;rw[Zo fY h0,kA];obtain⟨kk,rfl⟩: ∃kk:Nat,k=kk:=⟨k.toNat,AC⟩;rw[Zk (ZmS (n+2) a img.length kk s2 hl),aV,aq];have ER:c9 s2 (cK true a (kk*64)) (ZG img kk):=(AV.cK (k:=kk*64) AC).lu 64;have Pd:(ZG img kk).length=64:=by unfold ZG;rw[cR,eH];omega
  have hb:=Zr1 (n+3) _ (ZG img kk) s2 ER AC AC;rw[Pd]at hb;refine Ok.call hb ?_;rintro _ ⟨d,s3,rfl,cz,hblk⟩;refine⟨_,s3,rfl,?_⟩;rw[DL,aq,Zd];exact .mk ⟨d,s3,rfl,cU.trans (Fx.pre [j] cz),acW.pre cz,hblk⟩
structure cy where
 seq:Int
 blocks:Int
 dc:Int
 g:Int
 cm:Int
 used:Int
 free:Int
 dir:Int
 aJ:ak
structure aR where
 W:al
 aG:List bB
 aK:List dJ
 aF:ak
 free:ak
 nodes:Int
structure bP where
 w:Nat
 i:Nat
 j:Nat
 m:Nat
 a:ai
 img:aj
 sup:cy
 pc:ai
def dS (z:Nat) (p:ai) (n:Nat):DV:= .slice z p n
def sA (K:bP) (v:aR) (c11 c15 c16 c17:DV):ah:=
 [.slice 1 K.a K.img.length,.i K.sup.seq,.i K.sup.blocks,.i K.sup.dc,.i K.sup.g,.i K.sup.cm,.i K.sup.used,.i K.sup.free,.i K.sup.dir,.slice 1 K.pc K.sup.aJ.length,
  .ptr (some (K.i,0)),c11,.i K.sup.blocks,.i K.sup.dc,.i K.sup.g,c15,c16,c17,.i v.nodes]
def aN:ai->al
 |none=>[]
 |some (b,_)=>[b]
theorem lW.aN {L:al} {a:ai} (h: ∀b∈aN a,b∉L):lW L a:=by
 intro b o e;grind[F.aN]
theorem bg.fx {a:ai} (h:bg [] s a cs) (k:Fx T s s') (n: ∀b∈aN a,b∉T):bg [] s' a cs:=by
 refine⟨⟨s',rfl⟩,?_⟩;rcases h.2 with h1|⟨i,rfl,h2,h3⟩
 .exact .inl h1
 .exact .inr ⟨i,rfl,h2,k.2 i _ (n i (by simp[aN])) h3⟩
theorem bg.GM {a:ai} (h:bg [] s a cs): ∀b∈aN a,b<s.length:=by
 rcases h.2 with⟨rfl,_⟩|⟨i,rfl,_,h3⟩
 .intro b hb;cases hb
 .intro b hb;rw[cE.1 hb];grind
theorem Ao {a:ai} (h:bg [] s a cs) {sz:Nat} (ds:ah) (hz:0<sz) (hn:cs.length=n*sz) (hd:ds.length=sz) (hl:n+1<=lim:=by omega):
  ∃b s',s.length<=b/\bg [] s' (some (b,0)) (cs++ds)/\Fx (aN a) s s'/\∀K:ai->M β,(ck ds λi=>bX i 0 sz λcs'=>cw sz a n cs' 1 lim K) s=K (some (b,0)) s':=by
 have⟨b,s',h1,h2,_,h4,h5⟩:=h.Qi (β:=β) ds hz hn hd hl;refine⟨b,s',h1,h2,⟨?_,λi x hi e=>h4 i x e ?_⟩,h5⟩
 .have:=bg.GM h2 b (by simp[aN]);omega
 grind[aN]
def rh (s:St) (L:al):ah->List dJ->Prop
 |ds,[]=>ds=[]
 |ds,x::r=>∃z p t,(z=4\/p=none)/\ds=me x z p++t/\Sl s p (bY x.cg)/\lW L p/\rh s L t r
theorem rh.fx {s s':St} {L L':al} (k:Fx L s s') (hL: ∀x∈L',x∈L\/s.length<=x): ∀ {ds:ah} {xs:List dJ},rh s L ds xs->rh s' L' ds xs
 |_,[],h=>h
 |_,_::_,⟨z,p,t,hz,h1,h2,h3,h4⟩=>⟨z,p,t,hz,h1,h2.fx k h3,h3.new h2 hL,h4.fx k hL⟩
theorem rh.aK {s:St} {L:al} : ∀ {ds:ah} {xs:List dJ},rh s L ds xs->jo s ds xs
 |_,[],h=>h
 |_,_::_,⟨z,p,t,hz,h1,h2,_,h4⟩=>⟨z,p,t,hz,h1,h2,h4.aK⟩
theorem rh.push {s:St} {L:al} {x:dJ} {z:Nat} {p:ai} (hz:z=4\/p=none) (hs:Sl s p (bY x.cg)) (ho:lW L p): ∀ {ds:ah} {xs:List dJ},rh s L ds xs->rh s L (ds++me x z p) (xs++[x])
 |ds,[],h=>⟨z,p,[],hz,by rw[show ds=[]from h];rfl,hs,ho,rfl⟩
 |_,_::_,⟨z',p',t,Dg,h1,h2,h3,h4⟩=>⟨z',p',t++me x z p,Dg,by rw[h1,fR],h2,h3,h4.push hz hs ho⟩
structure eK (K:bP) (s:St) (v:aR) (L:List Nat) (z1:Nat) (p1:Option (Nat×Nat)) (z2:Nat) (p2:Option (Nat×Nat)) (z3:Nat) (p3:Option (Nat×Nat)) (z4:Nat) (p4:Option (Nat×Nat)) (hd:List DV):Prop where
 cell:s[K.w]? =some (some ⟨false,sA K v (dS z1 p1 v.aG.length) (dS z2 p2 v.aK.length) (dS z3 p3 v.aF.length) (dS z4 p4 v.free.length)⟩)
 e1:z1=3\/p1=none
 e2:z2=2\/p2=none
 e3:z3=1\/p3=none
 e4:z4=1\/p4=none
 o1:bg [] s p1 (ca v.aG)
 o2:bg [] s p2 hd
 o3:bg [] s p3 (ints v.aF)
 o4:bg [] s p4 (ints v.free)
 aK:rh s L hd v.aK
 set:gJ s false K.i K.j K.m v.W
 img:c9 s K.a K.img
 off:lW L K.a
 own:L=K.w::K.i::K.j::(aN p1++(aN p2++(aN p3++aN p4)))
 nodup:L.Nodup
def Wk (K:bP) (s:St) (v:aR) (L:al):Prop:=∃z1 p1 z2 p2 z3 p3 z4 p4 hd,eK K s v L z1 p1 z2 p2 z3 p3 z4 p4 hd
def Nw (L:al) (s:St) (L':al):Prop:=∀x∈L',x∈L\/s.length<=x
theorem Nw.refl (L:al) (s:St):Nw L s L:=λ_ h=> .inl h
theorem Nw.trans (h:Nw L s L') (hs:s.length<=s'.length) (k:Nw L' s' L''):Nw L s L'':=λx hx=>by
 rcases k x hx with h1|h1
 .exact h x h1
 omega
theorem M3 {B:al} {b:Nat} (h:(A++(B++C)).Nodup) (hl: ∀x∈A++(B++C),x<n) (hb:n<=b):(A++([b]++C)).Nodup:=by
 rw[sE]at h⊢;have⟨h1,h2,h3⟩:=h;rw[sE]at h2;have⟨_,h4,_⟩:=h2;refine⟨h1,?_,?_⟩
 .rw[List.singleton_append,zY]
  refine⟨λhm=>?_,h4⟩;have:=hl b (by simp[hm]);omega
 .intro x hx y hy
  rcases gI.1 hy with hy|hy
  .rw[cE.1 hy]
   have:=hl x (by simp[hx]);omega
  grind
variable {K:bP} {s:St} {v:aR} {L:al} {z1 z2 z3 z4:Nat} {p1 p2 p3 p4:ai} {hd:ah}
theorem eK.lt (h:eK K s v L z1 p1 z2 p2 z3 p3 z4 p4 hd): ∀x∈L,x<s.length:=by
 intro x hx;rw[h.own]at hx;simp only[eM,gI]at hx;rcases hx with rfl|rfl|rfl|hx|hx|hx|hx
 .exact(eB.1 h.cell).1
 .exact(eB.1 h.set.hd).1
 .exact(eB.1 h.set.wd).1
 .exact bg.GM h.o1 x hx
 .exact bg.GM h.o2 x hx
 .exact bg.GM h.o3 x hx
 .exact bg.GM h.o4 x hx
theorem eK.Fu (h:eK K s v L z1 p1 z2 p2 z3 p3 z4 p4 hd):K.w∈L:=by rw[h.own];simp
theorem eK.xA (h:eK K s v L z1 p1 z2 p2 z3 p3 z4 p4 hd):K.j∈L:=by rw[h.own];simp
theorem eK.ne (h:eK K s v L z1 p1 z2 p2 z3 p3 z4 p4 hd):K.w≠K.i/\K.w≠K.j/\K.i≠K.j/\(∀x∈aN p1++(aN p2++(aN p3++aN p4)),x≠K.w/\x≠K.i/\x≠K.j):=by
 have hn:=h.nodup;rw[h.own]at hn;simp only[zY,eM,not_or]at hn;grind
theorem eK.kl (h:eK K s v L z1 p1 z2 p2 z3 p3 z4 p4 hd) (k:Fx T s s') (hT: ∀x∈T,x∉L) (ha:lW T K.a) (hh:rh s' L hd v.aK):eK K s' v L z1 p1 z2 p2 z3 p3 z4 p4 hd:=by
 have hm: ∀x∈L,x∉T:=λx hx Fj=>hT x Fj hx
 have ho:=h.own;refine⟨k.2 _ _ (hm _ h.Fu) h.cell,h.e1,h.e2,h.e3,h.e4,h.o1.fx k λb hb=>hm b ?_,h.o2.fx k λb hb=>hm b ?_,h.o3.fx k λb hb=>hm b ?_,h.o4.fx k λb hb=>hm b ?_,hh,h.set.fx k (hm _ (by rw[ho];simp)) (hm _ h.xA),Sl.fx h.img k ha,h.off,ho,h.nodup⟩
 all_goals rw[ho];simp[hb]
theorem eK.pre {s':St} (h:eK K s v L z1 p1 z2 p2 z3 p3 z4 p4 hd) (k:aA s s'):eK K s' v L z1 p1 z2 p2 z3 p3 z4 p4 hd:=
 h.kl (Fx.pre [] k) (λ_ h=>by cases h) (λ_ _ _ h=>by cases h) (h.aK.fx (Fx.pre L k) (Nw.refl L s))
theorem eK.aks (h:eK K s v L z1 p1 z2 p2 z3 p3 z4 p4 hd) (k:Fx [K.j] s s') (hs:gJ s' false K.i K.j K.m W'):eK K s' { v with W:=W' } L z1 p1 z2 p2 z3 p3 z4 p4 hd:=by
 have dQ:=h.ne;refine⟨k.2 _ _ (by simpa using dQ.2.1) h.cell,h.e1,h.e2,h.e3,h.e4,h.o1.fx k λb hb=>?_,h.o2.fx k λb hb=>?_,h.o3.fx k λb hb=>?_,h.o4.fx k λb hb=>?_,h.aK.fx (k.mono λx hx=>by rw[cE.1 hx];exact h.xA) (Nw.refl L s),hs,Sl.fx h.img k λb o e hb=>h.off b o e (by rw[cE.1 hb];exact h.xA),h.off,h.own,h.nodup⟩
 all_goals simpa using Fd
def dT (K:bP) (k:Int) (v:aR):Option (xW×aR):=bif fW K.m v.W k then some (ZX (ZG K.img k.toNat), { v with W:=bN K.m v.W k })else none
theorem eK.take {Bd:Zh} (hB:HA Bd) (n:Nat) (k:Int) (hm:K.sup.blocks=(K.m:Int)) (hi:K.m*64<=K.img.length) (hl:K.img.length<1000000) (hn:170<=n) (h:eK K s v L z1 p1 z2 p2 z3 p3 z4 p4 hd):
  Ok (λo=>match dT K k v with
   |none=>o=(.fy,s)
   |some (b,v')=>∃d s',o=(.val [d],s')/\eK K s' v' L z1 p1 z2 p2 z3 p3 z4 p4 hd/\Fx [K.j] s s'/\QK s' b d) (run Bd n 228 [.ptr (some (K.w,0)),.i k] s):=by
 have dQ:=h.ne;refine(Zzr hB n K.w K.a K.img k s h.cell rfl (by rw[<-hm];rfl) rfl h.set dQ.2.2.1 dQ.2.1 h.img (λb o e hb=>h.off b o e (by rw[cE.1 hb];exact h.xA)) hi hl hn).mono ?_;intro o ho;unfold dT;cases hf:fW K.m v.W k with
 |false=>rw[hf]at ho;exact ho
 |true=>
  rw[hf]at ho;obtain⟨d,s',rfl,cU,hs,hb⟩:=ho;exact⟨d,s',rfl,h.aks cU hs,cU,hb⟩
theorem Nt: ∀ {l:List bB} {j:Nat} {x:bB},l[j]? =some x->((ca l).drop (j*3)).take 3=eV x
 |[],j,e,h=>by simp at h
 |x::l,0,e,h=>by
  simp only[lz,fZ]at h;subst h;rfl
 |x::l,j+1,e,h=>by
  have e2:ca (x::l)=eV x++ca l:=rfl;rw[e2,show(j+1)*3=(eV x).length+j*3 by show _=3+_;omega,<-jG,DG];exact Nt (by simpa using h)
def sK (K:bP) (s:St) (L:al) (r:Option aR) (ds:ah) (o:Out ah×St):Prop:=match r with
 |none=>∃s',o=(.fy,s')/\Fx L s s'
 |some v=>∃s' L',o=(.val ds,s')/\Wk K s' v L'/\Fx L s s'/\Nw L s L'
theorem eK.akp (h:eK K s v L z1 p1 z2 p2 z3 p3 z4 p4 hd) (x:bB) (hl:v.aG.length<1000000):
  ∃b s1 s2 L',(∀Kc:ai->M β,(ck (eV x) λi=>bX i 0 3 λcs'=>cw 3 p1 v.aG.length cs' 1 2932031007402 Kc) s=Kc (some (b,0)) s1)/\
   (∀Kc:M β,dG K.w 11 [.slice 3 (some (b,0)) (v.aG.length+1)] Kc s1=Kc s2)/\Wk K s2 { v with aG:=v.aG++[x] } L'/\Fx L s s2/\Nw L s L':=by
 have⟨b,s1,hb,ho,cU,he⟩:=Ao (β:=β) (lim:=2932031007402) h.o1 (sz:=3) (n:=v.aG.length) (eV x) AC (ZB _) rfl;have dQ:=h.ne;have cM:=cU.2 K.w _ Fd h.cell;have EB: ∀x∈aN p1,x∈L:=λx hx=>by rw[h.own];simp[hx]
 let L':=K.w::K.i::K.j::(aN (some (b,0))++(aN p2++(aN p3++aN p4)))
 have gk:Fx L s (s1.set K.w (some ⟨false,sA K { v with aG:=v.aG++[x] } (dS 3 (some (b,0)) (v.aG.length+1)) (dS z2 p2 v.aK.length) (dS z3 p3 v.aF.length) (dS z4 p4 v.free.length)⟩)):=
  (cU.mono EB).trans ((Fx.set s1 K.w _).mono λy hy=>by rw[cE.1 hy];exact h.Fu)
 have jz:=h.nodup;rw[h.own]at jz;have EV:(K.w::K.i::K.j::(aN (some (b,0))++(aN p2++(aN p3++aN p4)))).Nodup:=M3 (A:=[K.w,K.i,K.j]) (B:=aN p1) jz (λy hy=>h.lt y (by rw[h.own];exact hy)) hb;have ig:Nw L s L':=λy hy=>by
  have Fm:y∈K.w::K.i::K.j::([b]++(aN p2++(aN p3++aN p4))):=hy;rw[h.own];simp only[eM,gI,List.mem_nil_iff,pj]at Fm⊢;grind
 have alC: ∀y,y∉aN p1->y≠K.w->∀c,s[y]? =some c->(s1.set K.w (some ⟨false,sA K { v with aG:=v.aG++[x] } (dS 3 (some (b,0)) (v.aG.length+1)) (dS z2 p2 v.aK.length) (dS z3 p3 v.aF.length) (dS z4 p4 v.free.length)⟩))[y]? =some c:=λy h1 h2 c hc=>by
  rw[jH AC];exact cU.2 y c h1 hc
 have fL:Fx (K.w::aN p1) s (s1.set K.w (some ⟨false,sA K { v with aG:=v.aG++[x] } (dS 3 (some (b,0)) (v.aG.length+1)) (dS z2 p2 v.aK.length) (dS z3 p3 v.aF.length) (dS z4 p4 v.free.length)⟩)):=
  ⟨gk.1,Fd⟩
 have ji: ∀y,y∈aN p2++(aN p3++aN p4)->y∉K.w::aN p1:=λy hy hm=>by
  rcases eM.1 hm with e|e
  .grind
  .have xk:=jz
   simp only[zY,sE]at xk;grind
 have vN:b≠K.w:=λe=>by have:=(eB.1 h.cell).1;omega
 refine⟨b,s1,_,L',he,λKc=>?_,⟨3,some (b,0),z2,p2,z3,p3,z4,p4,hd,⟨?_,.inl rfl,h.e2,h.e3,h.e4,?_,?_,?_,?_,?_,?_,?_,?_,rfl,EV⟩⟩,gk,ig⟩
 .rw[rk cM (by show 11<19;omega)]
  rfl
 .rw[lA (by have:=(eB.1 cM).1;exact this),bz];rfl
 .rw[Jc]
  exact(show bg [] s1 (some (b,0)) (ca v.aG++ca [x])from ho).fx (Fx.set s1 K.w _) (λy hy=>by
   rw[cE.1 hy,cE];exact vN)
 .exact h.o2.fx fL λy hy=>ji y (by simp[hy])
 .exact h.o3.fx fL λy hy=>ji y (by simp[hy])
 .exact h.o4.fx fL λy hy=>ji y (by simp[hy])
 .exact h.aK.fx gk ig
 .exact h.set.fx fL (λhm=>by
   grind) (λhm=>by
   grind)
 .exact Sl.fx h.img gk h.off
 .exact h.off.new h.img ig
def pF (sup:cy) (x:bB):Bool:=(bif decide (x.gen>=1)then decide (x.gen<=sup.g)else false)&&(bif (bif x.live then true else decide (x.gen<sup.g))then true else x.block==0)
def ot (x:bB):Bool:=(x.live==false)&&((x.gen==0)&&((x.block==0)&&true))
def qw (K:bP) (k:Int) (x:bB) (v:aR):Option aR:=
 bif decide (k>=K.sup.used)then(bif ot x then some v else none)
 else(bif pF K.sup x then some { v with aG:=v.aG++[x] } else none)
def nG (K:bP):Int->List bB->aR->Option aR
 |_,[],v=>some v
 |k,x::r,v=>match qw K k x v with
  |none=>none
  |some v'=>nG K (k+1) r v'
def nr (K:bP) (k slot:Int) (v:aR):Option aR:=match dT K k v with
 |some (.leaf x,v')=>nG K slot x v'
 |_=>none
variable {v v':aR} {K:bP}
theorem Zta {x:bB} (h:qw K k x v=some v'):v'.aG.length<=v.aG.length+1:=by
 grind[qw]
theorem ZoJ {K:bP} : ∀ {x:List bB} {k:Int} {v v':aR},nG K k x v=some v'->v'.aG.length<=v.aG.length+x.length
 |[],_,_,_,h=>by cases h;simp
 |x::r,k,v,v',h=>by
  unfold nG at h;cases h1:qw K k x v with
  |none=>rw[h1]at h;cases h
  |some w=>
   rw[h1]at h;have:=Zta h1;have:=ZoJ h;simp;omega
structure DR (K:bP):Prop where
 m:K.sup.blocks=(K.m:Int)
 GL:K.m*64<=K.img.length
 len:K.img.length<1000000
theorem eK.wk (h:eK K s v L z1 p1 z2 p2 z3 p3 z4 p4 hd):Wk K s v L:=⟨_,_,_,_,_,_,_,_,_,h⟩
theorem Zzx {Bd:Zh} (h:HA Bd) (n:Nat) (hK:DR K) (k slot:Int) (K4:0<=slot) (eY:slot<=100000) (hW:Wk K s v L) (hl:v.aG.length<100000) (hn:180<=n):
  Ok (sK K s L (nr K k slot v) []) (run Bd n 229 [.ptr (some (K.w,0)),.i k,.i slot] s):=by
 obtain⟨n,rfl⟩: ∃k,n=k+2:=⟨n-2,AC⟩;rw[Ze,h.afY];unfold Ro GI vd Q_ cN Zm C_ az iI Li sI Lb nr;simp only[eO,av,aq,Za];have⟨z1,p1,z2,p2,z3,p3,z4,p4,hd,hW⟩:=hW;refine Ok.wW (hW.take h (n+1) k hK.m hK.GL hK.len AC) ?_ ?_
 .intro s' hp
  cases ht:dT K k v with
  |none=>rw[ht]at hp;cases hp;exact⟨s,rfl,.refl L s⟩
  |some q=>rw[ht]at hp;grind
 intro ds s1 hp;cases ht:dT K k v with
 |none=>rw[ht]at hp;cases hp
 |some q=>
  have⟨b,v1⟩:=q;rw[ht]at hp;have⟨d,s2,e,iV,cU,hb⟩:=hp;cases e;have zi:v1.aG=v.aG:=by
   unfold dT at ht;grind
  have qF:Fx L s s1:=cU.mono λy hy=>by rw[cE.1 hy];exact hW.xA
  rw[DL,aq];cases b with
  |node x=>obtain⟨p,rfl,_⟩:=hb;exact .mk ⟨s1,rfl,qF⟩
  |cm x=>obtain⟨rfl,_⟩:=hb;exact .mk ⟨s1,rfl,qF⟩
  |queue x=>obtain⟨rfl,_⟩:=hb;exact .mk ⟨s1,rfl,qF⟩
  |dir x=>obtain⟨p,rfl,_⟩:=hb;exact .mk ⟨s1,rfl,qF⟩
  |none=>cases hb;exact .mk ⟨s1,rfl,qF⟩
  |leaf x=>
   obtain⟨rfl,hx⟩:=hb;have hlen:(ca x).length=21:=by rw[ZB,hx]
   show Ok (sK K s L (nG K slot x v1) []) (bC (ca x) 21 _ _);have⟨R,hR⟩: ∃R,nG K slot x v1=R:=⟨_,rfl⟩;rw[hR,bK hlen,show(ca x).take 21=ca x from dF AC];refine Zj _ (λq y t=>∃(i:Nat) (u:aR) (Lu:al),y=[.i i]/\i<=7/\7-i<=q/\Wk K t u Lu/\Fx L s t/\Nw L s Lu/\u.aG.length<=v.aG.length+i/\nG K (slot+i) (x.drop i) u=R) ?_ 7 (n+1) _ _ ⟨0,v1,L,rfl,AC,AC,iV.wk,qF,.refl L s,by rw[zi];omega,by simp[hR]⟩ AC;rintro q _ t ⟨i,u,Lu,rfl,hi,hq,eu,fS,j9,zg,aO⟩ rec aL;rw[av,aq];by_cases aw:i<7
   .rw[aX,Zb (show aP (i:Int) 7=true from Zi aw),br]
    have np:x[i]? =some (x[i]' AC):=Fd
    rw[Nt np];have gj:x.drop i=(x[i]' AC)::x.drop (i+1):=jd AC;rw[gj]at aO;generalize x[i]' AC=e at aO;have⟨z1,p1,z2,p2,z3,p3,z4,p4,hd,eu⟩:=eu;rw[bK (cs:=eV e) (n:=3) rfl,bc,Zo eu.cell rfl,bj];have cM:ar (slot+(i:Int))=slot+i:=Zc;have fY:ar ((i:Int)+1)=((i+1:Nat):Int):=Zc;rw[cM,fY];unfold nG qw at aO;have uF:slot+((i+1:Nat):Int)=slot+i+1:=AC
    cases hk:decide (slot+(i:Int)>=K.sup.used)with
    |true=>
     rw[hk,ae]at aO;rw[ae];show Ok _ (cV (run Bd (n+1) 225 [.bool (ot e)]) _ t);cases h0:ot e with
     |true=>
      rw[h0]at aO;rw[ue h n rfl,aq];exact aL (7-(i+1)) _ _ AC ⟨i+1,u,Lu,rfl,AC,aM _,eu.wk,fS,j9,AC,by rw[uF];exact aO⟩
     |false=>
      rw[h0]at aO;rw[pD h n rfl];simp only[af]at aO;rw[<-aO];exact .mk ⟨t,rfl,fS⟩
    |false=>
     rw[hk,af]at aO;rw[af];have oG:sA K u (dS z1 p1 u.aG.length) (dS z2 p2 u.aK.length) (dS z3 p3 u.aF.length) (dS z4 p4 u.free.length)=sA K u (dS z1 p1 u.aG.length) (dS z2 p2 u.aK.length) (dS z3 p3 u.aF.length) (dS z4 p4 u.free.length):=rfl;clear oG;have nL:Ok (sK K s L R []) (cV (run Bd (n+1) 225 [.bool (pF K.sup e)]) (λds=>aI ds<|bJ (some (K.w,0)) λi1 o1=>bD i1 (o1+11) λd3=>dz 3 d3 λx4 dy=>bC (eV e) 3<|ck (eV e) λi2=>bX i2 0 3 λbQ=>cw 3 x4 dy bQ 1 2932031007402 λp=>bJ (some (K.w,0)) λi3 o2=>dG i3 (o2+11) [.slice 3 p (dy+1)]<|rec [.i ((i+1:Nat):Int)]) t):=by
      cases h0:pF K.sup e with
      |true=>
       rw[h0]at aO;rw[ue h n rfl];simp only[aq,bc];rw[Zo eu.cell rfl];show Ok _ (dz 3 (.slice z1 p1 u.aG.length) _ t);rw[Z3 3 z1 p1 _ eu.e1,bK (cs:=eV e) (n:=3) rfl];have⟨b,t1,t2,L2,g1,g2,g3,g4,g5⟩:=eu.akp (β:=ah) e AC;rw[g1,eJ,g2];exact aL (7-(i+1)) _ _ AC ⟨i+1,_,L2,rfl,AC,aM _,g3,fS.step g4 j9,j9.trans fS.1 g5,by simp;omega,by rw[uF];exact aO⟩
      |false=>
       rw[h0]at aO;rw[pD h n rfl];simp only[af]at aO;rw[<-aO];exact .mk ⟨t,rfl,fS⟩
     unfold pF at nL;rw[iu (i:=1) (d:= .i e.gen) rfl,bj];have qI: ∀Kc:DV->M ah,bD K.w (0+4) Kc t=Kc (.i K.sup.g) t:=λKc=>Zo eu.cell rfl Kc
     cases oG:decide (e.gen>=1)with
     |false=>
      simp only[oG,af,gu]at nL;rw[af,au,aq];exact nL
     |true=>
      simp only[oG,ae]at nL;rw[ae,iu (i:=1) (d:= .i e.gen) rfl];simp only[bj,bc];rw[qI];simp only[bj,au,aq];cases qG:decide (e.gen<=K.sup.g)with
      |false=>
       simp only[qG,gu]at nL;rw[af];exact nL
      |true=>
       simp only[qG,dL]at nL;rw[ae,iu (i:=0) (d:= .bool e.live) rfl,sH];cases eX:e.live with
       |true=>
        simp only[eX,ae]at nL;rw[ae,ae];exact nL
       |false=>
        simp only[eX,af]at nL;rw[af,iu (i:=1) (d:= .i e.gen) rfl,bj,qI,bj];cases Kq:decide (e.gen<K.sup.g)with
        |true=>
         simp only[Kq,ae]at nL;rw[ae];exact nL
        |false=>
         simp only[Kq,af]at nL;rw[af,iu (i:=2) (d:= .i e.block) rfl,bj];exact nL
   .rw[aZ]
    rw[ly AC]at aO;rw[Zd,<-aO];exact .mk ⟨t,Lu,rfl,eu,fS,j9⟩
theorem ZnS {x:List bB} (h:ZX l= .leaf x):x.length=7:=by
 unfold ZX at h;split at h
 .cases h
 .split at h
  .rename_i e;cases h;exact IM e
  grind
theorem Z4 {b:xW} (h:dT K k v=some (b,v')):v'.aG=v.aG/\v'.aK=v.aK/\v'.aF=v.aF/\v'.free=v.free/\v'.nodes=v.nodes/\b=ZX (ZG K.img k.toNat):=by
 grind[dT]
theorem ZrA (h:nr K k slot v=some v'):v'.aG.length<=v.aG.length+7:=by
 unfold nr at h;cases ht:dT K k v with
 |none=>rw[ht]at h;cases h
 |some q=>
  have⟨b,v1⟩:=q;rw[ht]at h;have⟨h1,_,_,_,_,h2⟩:=Z4 ht;cases b with
  |leaf x=>
   have:=ZoJ h;rw[h1,ZnS h2.symm]at this;exact this
  |node x=>cases h
  |cm x=>cases h
  |queue x=>cases h
  |dir x=>cases h
  |none=>cases h
def kO (K:bP) (cH x5:Int):Int->ak->aR->Option aR
 |_,[],v=>some v
 |k,y::r,v=>bif (!(y==0))==decide (x5*16+k<cH)then(bif !(y==0)then(match nr K y ((x5*16+k)*7) v with
   |none=>none
   |some v'=>kO K cH x5 (k+1) r v')else kO K cH x5 (k+1) r v)else none
def ou (K:bP) (cH:Int):Int->ak->aR->Option aR
 |_,[],v=>some v
 |k,y::r,v=>bif (!(y==0))==decide (k*16<cH)then(bif y==0 then ou K cH (k+1) r v else(match dT K y v with
   |some (.cm x,v')=>(match kO K cH k 0 x v' with
    |none=>none
    |some v''=>ou K cH (k+1) r v'')
   |_=>none))else none
def oy (K:bP) (v:aR):Option aR:=bif K.sup.used==0 then some v else(match dT K K.sup.cm v with
 |some (.cm x,v')=>ou K (Cj K.sup.used) 0 x v'
 |_=>none)
theorem UO {K:bP} {cH x5:Int} : ∀ {x:ak} {k:Int} {v v':aR},kO K cH x5 k x v=some v'->v'.aG.length<=v.aG.length+7*x.length
 |[],_,_,_,h=>by cases h;simp
 |y::r,k,v,v',h=>by
  unfold kO at h;cases h1:((!(y==0))==decide (x5*16+k<cH))with
  |false=>rw[h1]at h;cases h
  |true=>
   rw[h1,ae]at h;cases h2:(!(y==0))with
   |false=>
    rw[h2,af]at h;have:=UO h;simp;omega
   |true=>
    rw[h2,ae]at h;cases h3:nr K y ((x5*16+k)*7) v with
    |none=>rw[h3]at h;cases h
    |some w=>
     rw[h3]at h;have:=UO h;have:=ZrA h3;simp;omega
theorem ZzA {Bd:Zh} (hL:HA Bd) (hM:HA Bd) (n:Nat) (hK:DR K) (cH:Int) (i5:Nat) (h5:i5<16) (x:ak) (hx:x.length=16) (hn:181<=n) (s:St) (L:al) (t0:St) (L0:al) (v0:aR)
  (hW:Wk K t0 v0 L0) (hf:Fx L s t0) (ig:Nw L s L0) (hl:v0.aG.length<10000)
  (R:Option aR) (Kn:M ah) (aO: ∀w,kO K cH (i5:Int) 0 x v0=some w->∀t Lw,Wk K t w Lw->Fx L s t->Nw L s Lw->Ok (sK K s L R []) (Kn t)) (cD:kO K cH (i5:Int) 0 x v0=none->R=none):
  Ok (sK K s L R []) (cY (λdC st=>
      aC .i64 st λx8 st=>
      aI st<|
      bif decide (x8<16)then
       aB (aP x8 16)<|
      eS ((ints x).take 16) (x8.toNat*1) λd6=>
      de .i64 d6 λx9=>
      cV (run Bd n 225 [.bool ((!(x9==0))==(decide (ar ((ar ((i5:Int)*16))+x8)<cH)))]) λds=>
      aI ds<|
      bif !(x9==0)then
       cV (run Bd n 229 [.ptr (some (K.w,0)),.i x9,.i (ar ((ar ((ar ((i5:Int)*16))+x8))*7))]) λds=>
      aI ds<|
      dC [.i (ar (x8+1))]
      else
       dC [.i (ar (x8+1))]
      else
       Kn) n [.i 0] t0):=by
 obtain _|n:=n;omega;rw[show(ints x).take 16=ints x from dF (by simp[ints,hx])];have⟨G,hG⟩: ∃G,kO K cH (i5:Int) 0 x v0=G:=⟨_,rfl⟩;rw[hG]at aO cD;refine Zj _ (λq y t=>∃(i:Nat) (u:aR) (Lu:al),y=[.i i]/\i<=16/\16-i<=q/\Wk K t u Lu/\Fx L s t/\Nw L s Lu/\u.aG.length<=v0.aG.length+7*i/\kO K cH i5 i (x.drop i) u=G) ?_ 16 (n+1) _ _ Fd AC;rintro q _ t ⟨i,u,Lu,rfl,hi,hq,eu,fS,j9,zg,ez⟩ rec aL;rw[av,aq];by_cases aw:i<16
 .have gj:x.drop i=(x[i]' AC)::x.drop (i+1):=jd AC
  rw[gj]at ez;rw[aX,Zb (show aP (i:Int) 16=true from Zi aw),br,cS,iu (ZC),bj];generalize x[i]' AC=y at ez;have cM:ar ((i5:Int)*16)=(i5:Int)*16:=Zc;have fY:ar ((i5:Int)*16+i)=(i5:Int)*16+i:=Zc;have jO:ar (((i5:Int)*16+i)*7)=((i5:Int)*16+i)*7:=Zc;have kh:ar ((i:Int)+1)=((i+1:Nat):Int):=Zc;rw[cM,fY,jO,kh];have uF:((i+1:Nat):Int)=(i:Int)+1:=AC
  unfold kO at ez;cases h1:((!(y==0))==decide ((i5:Int)*16+i<cH))with
  |false=>
   rw[h1,af]at ez;rw[pD hM n rfl,cD ez.symm];exact .mk ⟨t,rfl,fS⟩
  |true=>
   rw[h1,ae]at ez;rw[ue hM n rfl,aq];cases h2:(!(y==0))with
   |false=>
    rw[h2,af]at ez;rw[af];exact aL (16-(i+1)) _ _ AC Fd
   |true=>
    rw[h2,ae]at ez;rw[ae];refine Ok.wW (Zzx hL (n+1) hK y (((i5:Int)*16+i)*7) AC AC eu AC AC) ?_ ?_
    .intro t' hp
     cases h3:nr K y (((i5:Int)*16+i)*7) u with
     |some w=>rw[h3]at hp;have⟨_,_,e,_⟩:=hp;cases e
     |none=>
      rw[h3]at hp ez;have⟨t2,e,nj⟩:=hp;cases e;rw[cD ez.symm];exact⟨t',rfl,fS.step nj j9⟩
    .intro ds t' hp
     cases h3:nr K y (((i5:Int)*16+i)*7) u with
     |none=>rw[h3]at hp;have⟨_,e,_⟩:=hp;cases e
     |some w=>
      rw[h3]at hp ez;have⟨t2,L2,e,mF,nj,xk⟩:=hp;cases e;rw[aq];have gD:=ZrA h3;exact aL (16-(i+1)) _ _ AC ⟨i+1,w,L2,rfl,AC,aM _,mF,fS.step nj j9,j9.trans fS.1 xk,AC,by rw[uF];exact ez⟩
 .rw[aZ]
  rw[ly AC]at ez;exact aO u ez.symm t Lu eu fS j9
theorem ZyW (n:Nat) (hK:DR K) (hW:Wk K s v L) (hl:v.aG.length<1000) (hn:190<=n):
  Ok (sK K s L (oy K v) []) (run Bd n 226 [.ptr (some (K.w,0))] s):=by
 obtain⟨n,rfl⟩: ∃k,n=k+2:=⟨n-2,AC⟩;rw[Ze,h.afV];unfold Rh jt Zm cA vd Q_ cN C_ Li iI Lb oy;simp only[eO,aq,Za,bc];have⟨z1,p1,z2,p2,z3,p3,z4,p4,hd,hW⟩:=hW;rw[Zo hW.cell rfl,bj];cases hu:(K.sup.used==0)with
 |true=>
  rw[ae,ae,Zd];exact .mk ⟨s,L,rfl,hW.wk,.refl L s,.refl L s⟩
 |false=>
  rw[af,af,Zo hW.cell rfl,bj];have jx:=Zql (n-1) K.sup.used s;rw[show n-1+2=n+1 by omega]at jx;rw[Zk jx,av,aq,Zo hW.cell rfl,bj];generalize Cj K.sup.used=cH;refine Ok.wW (hW.take h (n+1) K.sup.cm hK.m hK.GL hK.len AC) ?_ ?_
  .intro s' hp
   cases ht:dT K K.sup.cm v with
   |none=>rw[ht]at hp;cases hp;exact⟨s,rfl,.refl L s⟩
   |some q=>rw[ht]at hp;grind
  intro ds s1 hp;cases ht:dT K K.sup.cm v with
  |none=>rw[ht]at hp;cases hp
  |some q=>
   have⟨b,v1⟩:=q;rw[ht]at hp;have⟨d,s2,e,iV,cU,hb⟩:=hp;cases e;have zi:=(Z4 ht).1;have qF:Fx L s s1:=cU.mono λy hy=>by rw[cE.1 hy];exact hW.xA
   rw[DL,aq];cases b with
   |node x=>obtain⟨p,rfl,_⟩:=hb;exact .mk ⟨s1,rfl,qF⟩
   |leaf x=>obtain⟨rfl,_⟩:=hb;exact .mk ⟨s1,rfl,qF⟩
   |queue x=>obtain⟨rfl,_⟩:=hb;exact .mk ⟨s1,rfl,qF⟩
   |dir x=>obtain⟨p,rfl,_⟩:=hb;exact .mk ⟨s1,rfl,qF⟩
   |none=>cases hb;exact .mk ⟨s1,rfl,qF⟩
   |cm x=>
    obtain⟨rfl,hx⟩:=hb;have hlen:(ints x).length=16:=by simp[ints,hx]
    show Ok (sK K s L (ou K cH 0 x v1) []) (bC (ints x) 16 _ _);have⟨R,hR⟩: ∃R,ou K cH 0 x v1=R:=⟨_,rfl⟩;rw[hR,bK hlen,show(ints x).take 16=ints x from dF AC];refine Zj _ (λq y t=>∃(i:Nat) (u:aR) (Lu:al),y=[.i i]/\i<=16/\16-i<=q/\Wk K t u Lu/\Fx L s t/\Nw L s Lu/\u.aG.length<=v.aG.length+112*i/\ou K cH i (x.drop i) u=R) ?_ 16 (n+1) _ _ ⟨0,v1,L,rfl,AC,AC,iV.wk,qF,.refl L s,by rw[zi];omega,by simpa using hR⟩ AC;rintro q _ t ⟨i,u,Lu,rfl,hi,hq,eu,fS,j9,zg,aO⟩ rec aL;rw[av,aq];by_cases aw:i<16
    .have gj:x.drop i=(x[i]' AC)::x.drop (i+1):=jd AC
     rw[gj]at aO;rw[aX,Zb (show aP (i:Int) 16=true from Zi aw),br,cS,iu (ZC),bj];generalize x[i]' AC=y at aO;have cM:ar ((i:Int)*16)=(i:Int)*16:=Zc;have kh:ar ((i:Int)+1)=((i+1:Nat):Int):=Zc;have uF:((i+1:Nat):Int)=(i:Int)+1:=AC
     rw[show decide (ar ((i:Int)*16)<cH)=decide ((i:Int)*16<cH) by rw[cM]];unfold ou at aO;cases h1:((!(y==0))==decide ((i:Int)*16<cH))with
     |false=>
      rw[h1,af]at aO;rw[pD h n rfl,<-aO];exact .mk ⟨t,rfl,fS⟩
     |true=>
      rw[h1,ae]at aO;rw[ue h n rfl,aq];cases h2:(y==0)with
      |true=>
       rw[h2,ae]at aO;rw[ae,kh];exact aL (16-(i+1)) _ _ AC Fd
      |false=>
       rw[h2,af]at aO;rw[af];have⟨z1,p1,z2,p2,z3,p3,z4,p4,hd,eu⟩:=eu;refine Ok.wW (eu.take h (n+1) y hK.m hK.GL hK.len AC) ?_ ?_
       .intro s' hp
        cases ht:dT K y u with
        |none=>rw[ht]at hp aO;cases hp;rw[<-aO];exact⟨t,rfl,fS⟩
        |some q=>rw[ht]at hp;grind
       intro ds t1 hp;cases ht:dT K y u with
       |none=>rw[ht]at hp;cases hp
       |some q=>
        have⟨b,u1⟩:=q;rw[ht]at hp aO;have⟨d,s2,e,mF,gk,hb⟩:=hp;cases e;have wc:=(Z4 ht).1;have tw:Fx L s t1:=fS.step (gk.mono (T':=Lu) λy hy=>by rw[cE.1 hy];exact eu.xA) j9;rw[DL,aq];cases b with
        |node x=>obtain⟨p,rfl,_⟩:=hb;rw[<-aO];exact .mk ⟨t1,rfl,tw⟩
        |leaf x=>obtain⟨rfl,_⟩:=hb;rw[<-aO];exact .mk ⟨t1,rfl,tw⟩
        |queue x=>obtain⟨rfl,_⟩:=hb;rw[<-aO];exact .mk ⟨t1,rfl,tw⟩
        |dir x=>obtain⟨p,rfl,_⟩:=hb;rw[<-aO];exact .mk ⟨t1,rfl,tw⟩
        |none=>cases hb;rw[<-aO];exact .mk ⟨t1,rfl,tw⟩
        |cm x2=>
         obtain⟨rfl,Fk⟩:=hb;have Hq:(ints x2).length=16:=by simp[ints,Fk]
         show Ok _ (bC (ints x2) 16 _ _);rw[bK Hq];refine ZzA h h (n+1) hK cH i aw x2 Fk AC s L t1 Lu u1 mF.wk tw j9 (by rw[wc];omega) R (rec [.i (ar ((i:Int)+1))]) ?_ ?_
         .intro w hw t2 Lw hWw O5 ig
          have gD:=UO hw;simp only at aO;rw[hw]at aO;rw[kh];refine aL (16-(i+1)) _ _ AC ⟨i+1,w,Lw,rfl,AC,aM _,hWw,O5,ig,?_,by rw[uF];exact aO⟩;rw[wc]at gD;omega
         grind
    .rw[aZ]
     rw[ly AC]at aO;rw[Zd,<-aO];exact .mk ⟨t,Lu,rfl,eu,fS,j9⟩
theorem Vt {B:al} (h:(A++(B++C)).Nodup): ∀y∈A++C,y∉B:=by
 rw[sE,sE]at h;grind
theorem eK.akm (h:eK K s v L z1 p1 z2 p2 z3 p3 z4 p4 hd) (x:Int) (hl:v.free.length<1000000):
  ∃b s1 s2 L',(∀Kc:ai->M β,(ck [DV.int .i64 x] λi=>bX i 0 1 λcs'=>cw 1 p4 v.free.length cs' 1 8796093022208 Kc) s=Kc (some (b,0)) s1)/\
   (∀Kc:M β,dG K.w 17 [.slice 1 (some (b,0)) (v.free.length+1)] Kc s1=Kc s2)/\eK K s2 { v with free:=v.free++[x] } L' z1 p1 z2 p2 z3 p3 1 (some (b,0)) (hd)/\Fx L s s2/\Nw L s L'/\Fx (K.w::aN p4) s s2:=by
 have⟨b,s1,hb,ho,cU,he⟩:=Ao (β:=β) (lim:=8796093022208) h.o4 (sz:=1) (n:=v.free.length) [DV.int .i64 x] AC (by simp[ints]) rfl;have dQ:=h.ne;have cM:=cU.2 K.w _ Fd h.cell;have EB: ∀x∈aN p4,x∈L:=λx hx=>by rw[h.own];simp[hx]
 let L':=K.w::K.i::K.j::(aN p1++(aN p2++(aN p3++aN (some (b,0)))))
 let S':=s1.set K.w (some ⟨false,sA K { v with free:=v.free++[x] } (dS z1 p1 v.aG.length) (dS z2 p2 v.aK.length) (dS z3 p3 v.aF.length) (dS 1 (some (b,0)) (v.free.length+1))⟩)
 have gk:Fx L s S':=
  (cU.mono EB).trans ((Fx.set s1 K.w _).mono λy hy=>by rw[cE.1 hy];exact h.Fu)
 have jz:((K.w::K.i::K.j::(aN p1++(aN p2++aN p3)))++(aN p4++([]:al))).Nodup:=by
  have:=h.nodup;rw[h.own]at this;grind
 have KD: ∀y∈(K.w::K.i::K.j::(aN p1++(aN p2++aN p3)))++(aN p4++([]:al)),y<s.length:=λy hy=>h.lt y (by
  rw[h.own];grind)
 have EV:L'.Nodup:=by
  have:=M3 jz KD hb;show(K.w::K.i::K.j::(aN p1++(aN p2++(aN p3++aN (some (b,0)))))).Nodup;simpa only[fR,od,iG,gM,aN]using this
 have ig:Nw L s L':=λy hy=>by
  have Fm:y∈K.w::K.i::K.j::(aN p1++(aN p2++(aN p3++aN (some (b,0))))):=hy;rw[h.own];by_cases e:y=b
  .exact .inr AC
  .refine .inl ?_
   simp only[eM,gI,aN,List.mem_nil_iff,pj]at Fm⊢;grind
 have fL:Fx (K.w::aN p4) s S':=
  ⟨gk.1,λy c hy hc=>by
   simp only[eM,not_or]at hy;show(s1.set K.w _)[y]? =_;rw[jH AC];exact cU.2 y c hy.2 hc⟩
 have KF:=Vt jz;have ji: ∀y,y∈aN p1++(aN p2++aN p3)->y∉K.w::aN p4:=λy hy hm=>by
  rcases eM.1 hm with e|e
  .grind
  .exact KF y Fd e
 have vN:b≠K.w:=λe=>by have:=(eB.1 h.cell).1;omega
 refine⟨b,s1,S',L',he,λKc=>?_,⟨?_,h.e1,h.e2,h.e3,.inl rfl,?_,?_,?_,?_,?_,?_,?_,?_,rfl,EV⟩,gk,ig,fL⟩
 .rw[rk cM (by show 17<19;omega)]
  rfl
 .show(s1.set K.w _)[K.w]? =_
  rw[lA (by have:=(eB.1 cM).1;exact this),bz];rfl
 .exact h.o1.fx fL λy hy=>ji y (by simp[hy])
 .exact h.o2.fx fL λy hy=>ji y (by simp[hy])
 .exact h.o3.fx fL λy hy=>ji y (by simp[hy])
 .rw[show ints (v.free++[x])=ints v.free++[.i x] by unfold ints;rw[fB];rfl]
  exact(show bg [] s1 (some (b,0)) _ from ho).fx (Fx.set s1 K.w _) (λy hy=>by
   rw[cE.1 hy,cE];exact vN)
 .exact h.aK.fx gk ig
 .exact h.set.fx fL (λhm=>by
   grind) (λhm=>by
   grind)
 .exact Sl.fx h.img gk h.off
 .exact h.off.new h.img ig
theorem eK.akn (h:eK K s v L z1 p1 z2 p2 z3 p3 z4 p4 hd) (x:Int) (hl:v.aF.length<1000000):
  ∃b s1 s2 L',(∀Kc:ai->M β,(ck [DV.int .i64 x] λi=>bX i 0 1 λcs'=>cw 1 p3 v.aF.length cs' 1 8796093022208 Kc) s=Kc (some (b,0)) s1)/\
   (∀Kc:M β,dG K.w 16 [.slice 1 (some (b,0)) (v.aF.length+1)] Kc s1=Kc s2)/\eK K s2 { v with aF:=v.aF++[x] } L' z1 p1 z2 p2 1 (some (b,0)) z4 p4 (hd)/\Fx L s s2/\Nw L s L'/\Fx (K.w::aN p3) s s2:=by
 have⟨b,s1,hb,ho,cU,he⟩:=Ao (β:=β) (lim:=8796093022208) h.o3 (sz:=1) (n:=v.aF.length) [DV.int .i64 x] AC (by simp[ints]) rfl;have dQ:=h.ne;have cM:=cU.2 K.w _ Fd h.cell;have EB: ∀x∈aN p3,x∈L:=λx hx=>by rw[h.own];simp[hx]
 let L':=K.w::K.i::K.j::(aN p1++(aN p2++(aN (some (b,0))++aN p4)))
 let S':=s1.set K.w (some ⟨false,sA K { v with aF:=v.aF++[x] } (dS z1 p1 v.aG.length) (dS z2 p2 v.aK.length) (dS 1 (some (b,0)) (v.aF.length+1)) (dS z4 p4 v.free.length)⟩)
 have gk:Fx L s S':=
  (cU.mono EB).trans ((Fx.set s1 K.w _).mono λy hy=>by rw[cE.1 hy];exact h.Fu)
 have jz:((K.w::K.i::K.j::(aN p1++aN p2))++(aN p3++aN p4)).Nodup:=by
  have:=h.nodup;rw[h.own]at this;grind
 have KD: ∀y∈(K.w::K.i::K.j::(aN p1++aN p2))++(aN p3++aN p4),y<s.length:=λy hy=>h.lt y (by
  rw[h.own];grind)
 have EV:L'.Nodup:=by
  have:=M3 jz KD hb;show(K.w::K.i::K.j::(aN p1++(aN p2++(aN (some (b,0))++aN p4)))).Nodup;simpa only[fR,od,iG,gM,aN]using this
 have ig:Nw L s L':=λy hy=>by
  have Fm:y∈K.w::K.i::K.j::(aN p1++(aN p2++(aN (some (b,0))++aN p4))):=hy;rw[h.own];by_cases e:y=b
  .exact .inr AC
  .refine .inl ?_
   simp only[eM,gI,aN,List.mem_nil_iff,pj]at Fm⊢;grind
 have fL:Fx (K.w::aN p3) s S':=
  ⟨gk.1,λy c hy hc=>by
   simp only[eM,not_or]at hy;show(s1.set K.w _)[y]? =_;rw[jH AC];exact cU.2 y c hy.2 hc⟩
 have KF:=Vt jz;have ji: ∀y,y∈aN p1++(aN p2++aN p4)->y∉K.w::aN p3:=λy hy hm=>by
  rcases eM.1 hm with e|e
  .grind
  .exact KF y (by simp only[gI,eM]at hy⊢;rcases hy with e|e|e<;>simp[e]) e
 have vN:b≠K.w:=λe=>by have:=(eB.1 h.cell).1;omega
 refine⟨b,s1,S',L',he,λKc=>?_,⟨?_,h.e1,h.e2,.inl rfl,h.e4,?_,?_,?_,?_,?_,?_,?_,?_,rfl,EV⟩,gk,ig,fL⟩
 .rw[rk cM (by show 16<19;omega)]
  rfl
 .show(s1.set K.w _)[K.w]? =_
  rw[lA (by have:=(eB.1 cM).1;exact this),bz];rfl
 .exact h.o1.fx fL λy hy=>ji y (by simp[hy])
 .exact h.o2.fx fL λy hy=>ji y (by simp[hy])
 .rw[show ints (v.aF++[x])=ints v.aF++[.i x] by unfold ints;rw[fB];rfl]
  exact(show bg [] s1 (some (b,0)) _ from ho).fx (Fx.set s1 K.w _) (λy hy=>by
   rw[cE.1 hy,cE];exact vN)
 .exact h.o4.fx fL λy hy=>ji y (by simp[hy])
 .exact h.aK.fx gk ig
 .exact h.set.fx fL (λhm=>by
   rcases eM.1 hm with e|e
   .exact dQ.1 e.symm
   .exact(dQ.2.2.2 K.i (by rw[gI];grind)).2.1 rfl) (λhm=>by
   rcases eM.1 hm with e|e
   .exact dQ.2.1 e.symm
   .exact(dQ.2.2.2 K.j (by rw[gI];grind)).2.2 rfl)
 .exact Sl.fx h.img gk h.off
 .exact h.off.new h.img ig
theorem eK.ako (h:eK K s v L z1 p1 z2 p2 z3 p3 z4 p4 hd) (x:dJ) (hl:v.aK.length<1000000) {p:ai} (hz:z=4\/p=none) (hs:Sl s p (bY x.cg)) (Py:lW L p):
  ∃b s1 s2 L',(∀Kc:ai->M β,(ck (me x z p) λi=>bX i 0 2 λcs'=>cw 2 p2 v.aK.length cs' 1 1759218604441 Kc) s=Kc (some (b,0)) s1)/\
   (∀Kc:M β,dG K.w 15 [.slice 2 (some (b,0)) (v.aK.length+1)] Kc s1=Kc s2)/\eK K s2 { v with aK:=v.aK++[x] } L' z1 p1 2 (some (b,0)) z3 p3 z4 p4 (hd++me x z p)/\Fx L s s2/\Nw L s L'/\Fx (K.w::aN p2) s s2:=by
 have⟨b,s1,hb,ho,cU,he⟩:=Ao (β:=β) (lim:=1759218604441) h.o2 (sz:=2) (n:=v.aK.length) (me x z p) AC h.aK.aK.len rfl;have dQ:=h.ne;have cM:=cU.2 K.w _ Fd h.cell;have EB: ∀x∈aN p2,x∈L:=λx hx=>by rw[h.own];simp[hx]
 let L':=K.w::K.i::K.j::(aN p1++(aN (some (b,0))++(aN p3++aN p4)))
 let S':=s1.set K.w (some ⟨false,sA K { v with aK:=v.aK++[x] } (dS z1 p1 v.aG.length) (dS 2 (some (b,0)) (v.aK.length+1)) (dS z3 p3 v.aF.length) (dS z4 p4 v.free.length)⟩)
 have gk:Fx L s S':=
  (cU.mono EB).trans ((Fx.set s1 K.w _).mono λy hy=>by rw[cE.1 hy];exact h.Fu)
 have jz:((K.w::K.i::K.j::aN p1)++(aN p2++(aN p3++aN p4))).Nodup:=by
  have:=h.nodup;rw[h.own]at this;grind
 have KD: ∀y∈(K.w::K.i::K.j::aN p1)++(aN p2++(aN p3++aN p4)),y<s.length:=λy hy=>h.lt y (by
  rw[h.own];grind)
 have EV:L'.Nodup:=by
  have:=M3 jz KD hb;show(K.w::K.i::K.j::(aN p1++(aN (some (b,0))++(aN p3++aN p4)))).Nodup;simpa only[fR,od,iG,gM,aN]using this
 have ig:Nw L s L':=λy hy=>by
  have Fm:y∈K.w::K.i::K.j::(aN p1++(aN (some (b,0))++(aN p3++aN p4))):=hy;rw[h.own];by_cases e:y=b
  .exact .inr AC
  .refine .inl ?_
   simp only[eM,gI,aN,List.mem_nil_iff,pj]at Fm⊢;grind
 have fL:Fx (K.w::aN p2) s S':=
  ⟨gk.1,λy c hy hc=>by
   simp only[eM,not_or]at hy;show(s1.set K.w _)[y]? =_;rw[jH AC];exact cU.2 y c hy.2 hc⟩
 have KF:=Vt jz;have ji: ∀y,y∈aN p1++(aN p3++aN p4)->y∉K.w::aN p2:=λy hy hm=>by
  rcases eM.1 hm with e|e
  .grind
  .exact KF y (by simp only[gI,eM]at hy⊢;rcases hy with e|e|e<;>simp[e]) e
 have vN:b≠K.w:=λe=>by have:=(eB.1 h.cell).1;omega
 refine⟨b,s1,S',L',he,λKc=>?_,⟨?_,h.e1,.inl rfl,h.e3,h.e4,?_,?_,?_,?_,?_,?_,?_,?_,rfl,EV⟩,gk,ig,fL⟩
 .rw[rk cM (by show 15<19;omega)]
  rfl
 .show(s1.set K.w _)[K.w]? =_
  rw[lA (by have:=(eB.1 cM).1;exact this),bz];rfl
 .exact h.o1.fx fL λy hy=>ji y (by simp[hy])
 .skip
  exact(show bg [] s1 (some (b,0)) _ from ho).fx (Fx.set s1 K.w _) (λy hy=>by
   rw[cE.1 hy,cE];exact vN)
 .exact h.o3.fx fL λy hy=>ji y (by simp[hy])
 .exact h.o4.fx fL λy hy=>ji y (by simp[hy])
 .exact(h.aK.fx gk ig).push hz (hs.fx gk Py) (Py.new hs ig)
 .exact h.set.fx fL (λhm=>by
   grind) (λhm=>by
   grind)
 .exact Sl.fx h.img gk h.off
 .exact h.off.new h.img ig
def ug (K:bP) (v:aR) (k:Int):Prop:=(v.aG.length:Int)=(if k<=K.sup.used then k else K.sup.used)/\∀x∈v.aG,ZN x=true
theorem Zum {x:bB} (hx:ZN x=true) (_h0:0<=K.sup.used) (h:qw K k x v=some v') (ha:ug K v k):ug K v' (k+1):=by
 unfold qw at h;by_cases hk:k>=K.sup.used
 .rw[aX hk]at h
  cases h2:ot x with
  |false=>rw[h2]at h;cases h
  |true=>
   rw[h2]at h;cases h;refine⟨?_,ha.2⟩;rw[ha.1];split<;>split<;>omega
 .rw[aZ hk]at h
  cases h2:pF K.sup x with
  |false=>rw[h2]at h;cases h
  |true=>
   rw[h2]at h;cases h;refine⟨?_,λy hy=>?_⟩
   .have:=ha.1
    rw[bG AC]at this;rw[bG AC];simp;omega
   .rcases gI.1 hy with h|h
    .exact ha.2 y h
    grind
theorem ZrF {K:bP} (h0:0<=K.sup.used): ∀ {x:List bB} {k:Int} {v v':aR},(∀y∈x,ZN y=true)->nG K k x v=some v'->ug K v k->ug K v' (k+x.length)
 |[],k,_,_,_,h,ha=>by cases h;simpa using ha
 |y::r,k,v,v',hr,h,ha=>by
  unfold nG at h;cases h1:qw K k y v with
  |none=>rw[h1]at h;cases h
  |some w=>
   rw[h1]at h;have:=ZrF h0 Fd h (Zum (hr y Do) h0 h1 ha);rwa [show k+((y::r).length:Int)=k+1+r.length by simp;omega]
theorem Zsg {x:List bB} (h:ZO l=some x): ∀y∈x,ZN y=true:=by
 grind[ZO]
theorem ZtP {x:List bB} (h:ZX l= .leaf x): ∀y∈x,ZN y=true:=by
 unfold ZX at h;split at h
 .cases h
 .split at h
  .rename_i e;cases h;exact Zsg e
  grind
theorem Zyg (h0:0<=K.sup.used) (h:nr K k slot v=some v') (ha:ug K v slot):ug K v' (slot+7):=by
 unfold nr at h;cases ht:dT K k v with
 |none=>rw[ht]at h;cases h
 |some q=>
  have⟨b,v1⟩:=q;rw[ht]at h;have⟨h1,_,_,_,_,h2⟩:=Z4 ht;cases b with
  |leaf x=>
   have:=ZrF h0 (ZtP h2.symm) h (by grind[ug]);rwa [ZnS h2.symm]at this
  |node x=>cases h
  |cm x=>cases h
  |queue x=>cases h
  |dir x=>cases h
  |none=>cases h
theorem Vb {K:bP} (h0:0<=K.sup.used) {cH x5:Int} (hc:K.sup.used<=cH*7): ∀ {x:ak} {k:Int} {v v':aR},kO K cH x5 k x v=some v'->ug K v ((x5*16+k)*7)->ug K v' ((x5*16+k+x.length)*7)
 |[],_,_,_,h,ha=>by cases h;simpa using ha
 |y::r,k,v,v',h,ha=>by
  unfold kO at h;have e:(x5*16+k+((y::r).length:Int))*7=(x5*16+(k+1)+r.length)*7:=by simp;omega
  rw[e];cases h1:((!(y==0))==decide (x5*16+k<cH))with
  |false=>rw[h1]at h;cases h
  |true=>
   rw[h1,ae]at h;cases h2:(!(y==0))with
   |false=>
    rw[h2]at h h1;have hk: ¬(x5*16+k<cH):=by
     grind
    refine Vb h0 hc h ⟨?_,ha.2⟩;rw[ha.1];split<;>split<;>omega
   |true=>
    rw[h2,ae]at h;cases h3:nr K y ((x5*16+k)*7) v with
    |none=>rw[h3]at h;cases h
    |some w=>
     rw[h3]at h;have:=Zyg h0 h3 ha;rw[show(x5*16+k)*7+7=(x5*16+(k+1))*7 by omega]at this;exact Vb h0 hc h this
theorem UP {x:ak} (h:iU l=some x):x.length=16:=by
 unfold iU at h;split at h
 .cases h
 .rename_i k t b _
  cases e:(decide (k=3)&&(decide (t=0)&&ZD (b.drop 32)))with
  |false=>rw[e]at h;cases h
  |true=>
   rw[e]at h;cases e2:Cc (dZ b 16)with
   |false=>rw[e2]at h;cases h
   |true=>rw[e2]at h;cases h;exact om b 16
theorem Zpp {x:ak} (h:ZX l= .cm x):x.length=16:=by
 unfold ZX at h;split at h
 .cases h
 .split at h
  .cases h
  .split at h
   .rename_i e;cases h;exact UP e
   grind
theorem VG {K:bP} (h0:0<=K.sup.used) {cH:Int} (hc:K.sup.used<=cH*7): ∀ {x:ak} {k:Int} {v v':aR},ou K cH k x v=some v'->ug K v (k*112)->ug K v' ((k+x.length)*112)
 |[],_,_,_,h,ha=>by cases h;simpa using ha
 |y::r,k,v,v',h,ha=>by
  unfold ou at h;have e:(k+((y::r).length:Int))*112=(k+1+r.length)*112:=by simp;omega
  rw[e];cases h1:((!(y==0))==decide (k*16<cH))with
  |false=>rw[h1]at h;cases h
  |true=>
   rw[h1,ae]at h;cases h2:(y==0)with
   |true=>
    rw[h2]at h h1;have hk: ¬(k*16<cH):=by
     grind
    refine VG h0 hc h ⟨?_,ha.2⟩;rw[ha.1];split<;>split<;>omega
   |false=>
    rw[h2,af]at h;cases ht:dT K y v with
    |none=>rw[ht]at h;cases h
    |some q=>
     have⟨b,v1⟩:=q;rw[ht]at h;have⟨g1,_,_,_,_,g2⟩:=Z4 ht;cases b with
     |leaf x=>cases h
     |node x=>cases h
     |queue x=>cases h
     |dir x=>cases h
     |none=>cases h
     |cm x2=>
      simp only at h;cases h3:kO K cH k 0 x2 v1 with
      |none=>rw[h3]at h;cases h
      |some w=>
       rw[h3]at h;have hb:=Zpp g2.symm;have:=Vb h0 hc h3 (by grind[ug]);rw[hb,show(k*16+0+((16:Nat):Int))*7=(k+1)*112 by omega]at this;exact VG h0 hc h this
theorem Zwa (h0:0<=u) (h1:u<=1792):u<=Cj u*7:=by
 unfold Cj qS;rw[aS (show u>=0 from h0),aS h1,wC,ae,Zc (x:=u+7),Zc (x:=u+7-1)];obtain⟨k,rfl⟩: ∃k:Nat,u=k:=⟨u.toNat,AC⟩;rw[show((k:Int)+7-1)=((k+6:Nat):Int) by omega,show(((k+6:Nat):Int).tdiv 7)=(((k+6)/7:Nat):Int)from rfl,Zc];omega
theorem Zrt (h0:0<=K.sup.used) (h1:K.sup.used<=1792) (hv:v.aG=[]) (h:oy K v=some v'):(v'.aG.length:Int)=K.sup.used/\∀x∈v'.aG,ZN x=true:=by
 unfold oy at h;cases hu:(K.sup.used==0)with
 |true=>
  rw[hu]at h;grind
 |false=>
  rw[hu,af]at h;cases ht:dT K K.sup.cm v with
  |none=>rw[ht]at h;cases h
  |some q=>
   have⟨b,v1⟩:=q;rw[ht]at h;have⟨g1,_,_,_,_,g2⟩:=Z4 ht;cases b with
   |leaf x=>cases h
   |node x=>cases h
   |queue x=>cases h
   |dir x=>cases h
   |none=>cases h
   |cm x=>
    have:=VG h0 (Zwa h0 h1) h (by grind[ug]);rw[Zpp g2.symm]at this;have h2:=this.1;refine⟨?_,this.2⟩;rw[h2];split<;>omega
def nF (K:bP):Nat->List Bool->Int->aR->Option (List Bool×aR)
 |0,_,_,_=>none
 |f+1,fl,next,v=>bif next==0 then some (fl,v)else(bif decide (next<=K.sup.used)then
   (match v.aG[(next-1).toNat]? with
   |none=>none
   |some x=>bif (bif (bif !x.live then decide (x.gen<K.sup.g)else false)then !fl.getD (next-1).toNat false else false)then nF K f (fl.set (next-1).toNat true) x.block { v with free:=v.free++[next-1] } else none)
  else none)
def Eh (K:bP) (b:Bool) (x:bB):Bool:=bif (bif x.live then true else x.gen==K.sup.g)then true else b
def rI (K:bP):List Bool->List bB->Bool
 |_,[]=>true
 |fl,x::r=>Eh K (fl.getD 0 false) x&&rI K (fl.drop 1) r
def Cg (K:bP):Option (List Bool×aR)->Option aR
 |none=>none
 |some (fl,v)=>bif rI K fl v.aG then some v else none
def tm (K:bP) (v:aR):Option aR:=Cg K (nF K (K.sup.used.toNat+1) (List.replicate K.sup.used.toNat false) K.sup.free v)
theorem ZxC: ∀ {l:List Bool} {k:Nat},l.getD k true=false->(l.set k true).count false+1=l.count false
 |[],k,h=>by simp at h
 |b::l,0,h=>by
  grind
 |b::l,k+1,h=>by
  grind
theorem bg.cF {a:ai} (h:bg [] s a cs) (hn:0<cs.length): ∃b,a=some (b,0)/\s[b]? =some (some ⟨false,cs⟩):=by
 rcases h.2 with⟨_,rfl⟩|⟨i,rfl,_,h3⟩
 .cases hn
 grind
theorem MX {b:Nat} {l:List bB} {x:bB} {k:Nat} (h:s[b]? =some (some ⟨false,ca l⟩)) (hx:l[k]? =some x) (Kc:ah->M β):bX b (k*3+0) 3 Kc s=Kc (eV x) s:=by
 have hk:k<l.length:=Fd
 rw[gQ,Z9 h (by rw[ZB];omega),Nt hx]
theorem ZzU {Bd:Zh} (hM:HA Bd) (n:Nat) (i1:Nat) (fl:List Bool) (s0:St) (L0:al) (R:Option aR) (hW:Wk K s v L) (hf:s[i1]? =some (some ⟨false,fl.map .bool⟩)) (hl:fl.length=v.aG.length) (hlen:v.aG.length<2000) (cU:Fx L0 s0 s) (ig:Nw L0 s0 L) (hR:Cg K (some (fl,v))=R) (X:Nat) (hX:X=v.aG.length) (hn:2010<=n):
  Ok (sK K s0 L0 R []) ((bJ (some (K.w,0)) λi3 o2=>
  bD i3 (o2+11) λd2=>
  dz 3 d2 λx2 db=>
  cT (λst=>
   aI st<|
   ax []) λaH=>
  cY (λaQ st=>
   aC .i64 st λx3 st=>
   aI st<|
   bif decide (x3<(db:Int))then
    bJ x2 λi4 o3=>
    aB (aP x3 db)<|
    bX i4 (x3.toNat*3+o3) 3 λcs=>
    gK cs λx4 r=>
    aC .i64 r λx5 r=>
    aC .i64 r λ_x6 r=>
    aI r<|
    cT (λst=>gK st λb1 st=>aI st<|
     cT (λst=>gK st λb2 st=>aI st<|
      cV (run Bd n 225 [.bool b2]) λds=>
      aI ds<|
      aQ [.i (ar (x3+1))]) λbA=>
     bif b1 then
      bA [.bool true]
     else
      aB (aP x3 X)<|
      bD i1 (x3.toNat*1) λd3=>
      uu d3 λx7=>
      bA [.bool x7]) λaW=>
    bif x4 then
     aW [.bool true]
    else
     bJ (some (K.w,0)) λi5 o4=>
     bD i5 (o4+4) λd4=>
     de .i64 d4 λx8=>
     aW [.bool (x5==x8)]
   else
    aH []) n [.i 0]) s):=by
 subst hX;obtain _|n:=n;omega;have⟨z1,p1,z2,p2,z3,p3,z4,p4,hd,hW⟩:=hW;rw[bc,Zo hW.cell rfl];show Ok _ (dz 3 (.slice z1 p1 v.aG.length) _ s);rw[Z3 3 z1 p1 _ hW.e1];simp only[Za];refine Zj _ (λq y t=>∃i:Nat,y=[.i i]/\i<=v.aG.length/\v.aG.length-i<=q/\t=s/\(bif rI K (fl.drop i) (v.aG.drop i)then some v else none)=R) ?_ v.aG.length (n+1) _ _ ⟨0,rfl,cB _,AC,rfl,hR⟩ AC;rintro q _ t ⟨i,rfl,hi,hq,rfl,aO⟩ rec aL;simp only[av,aq];by_cases aw:i<v.aG.length
 .obtain⟨b,rfl,hb⟩:=hW.o1.cF (by rw[ZB];omega)
  have np:v.aG[i]? =some v.aG[i]:=cu aw;have gj:v.aG.drop i=v.aG[i]::v.aG.drop (i+1):=jd aw;have Hj:fl[i]? =some (fl[i]' AC):=Fd
  rw[aX,bc,Zb (Zi aw),br,MX hb np];rw[gj]at aO;unfold rI at aO;rw[jG,show(fl.drop i).getD 0 false=fl[i]' AC by rw[ef,BG,gQ,Hj];rfl]at aO;generalize v.aG[i]=x at aO;unfold eV;simp only[au,av,aq,bc];have kh:ar ((i:Int)+1)=((i+1:Nat):Int):=Zc;rw[kh];have nL:Ok (sK K s0 L0 R []) (cV (run Bd (n+1) 225 [.bool (Eh K (fl[i]' AC) x)]) (λds=>aI ds<|rec [.i ((i+1:Nat):Int)]) t):=by
   cases h0:Eh K (fl[i]' AC) x with
   |true=>
    rw[h0,dL]at aO;rw[ue hM n rfl,aq];exact aL (v.aG.length-(i+1)) _ _ AC Fd
   |false=>
    rw[h0,gu,af]at aO;rw[pD hM n rfl,<-aO];exact .mk ⟨t,rfl,cU⟩
  unfold Eh at nL;have Hr: ∀Kc:DV->M ah,bD i1 (i*1) Kc t=Kc (.bool (fl[i]' AC)) t:=λKc=>Zo hf (by rw[cS,sC,Hj];rfl) Kc
  have qI: ∀Kc:DV->M ah,bD K.w (0+4) Kc t=Kc (.i K.sup.g) t:=λKc=>Zo hW.cell rfl Kc
  cases eX:x.live with
  |true=>
   grind
  |false=>
   simp only[eX,af]at nL;rw[af,qI,bj];cases hg:(x.gen==K.sup.g)with
   |true=>
    grind
   |false=>
    simp only[hg,af]at nL;rw[af,Zb (Zi aw),Hr,sH];exact nL
 .rw[aZ]
  rw[Zd];rw[ly (as:=v.aG) AC]at aO;have A0:some v=R:=aO;rw[<-A0];exact .mk ⟨t,L,rfl,hW.wk,cU,ig⟩
theorem ZzB (n:Nat) (hW:Wk K s v L) (h0:0<=K.sup.used) (h1:K.sup.used<=1792) (vQ:0<=K.sup.free) (hs:(v.aG.length:Int)=K.sup.used) (hr: ∀x∈v.aG,ZN x=true) (hh:v.aK=[]) (dW:v.free=[]) (hn:2100<=n):
  Ok (sK K s L (tm K v) []) (run Bd n 230 [.ptr (some (K.w,0))] s):=by
 obtain⟨n,rfl⟩: ∃k,n=k+2:=⟨n-2,AC⟩;rw[Ze,h.afZ];unfold Rg jt Zm Q_ cN N_ rr az C_ pJ Lb Li ba tm
 try dsimp only
 rw[eO,aq,bc];have⟨z1,p1,z2,p2,z3,p3,z4,p4,hd,hW⟩:=hW;rw[Zo hW.cell rfl,bj,Zb (by rw[aY,aY,bn,bn,bn];omega),Zz,Ec];have oK:=aA.new s (some (⟨false,List.replicate K.sup.used.toNat (.bool false)⟩:bO));have aci:(s++[some (⟨false,List.replicate K.sup.used.toNat (.bool false)⟩:bO)])[s.length]? =some (some ⟨false,(List.replicate K.sup.used.toNat false).map .bool⟩):=Do
 have tr:=hW.pre oK;have aca:=tr.cell;generalize s++[some (⟨false,List.replicate K.sup.used.toNat (.bool false)⟩:bO)]=s0 at oK aci tr aca;rw[bc,Zo aca rfl,bj,Za];have⟨R,hR⟩: ∃R,Cg K (nF K (K.sup.used.toNat+1) (List.replicate K.sup.used.toNat false) K.sup.free v)=R:=⟨_,rfl⟩;rw[hR];have hX:K.sup.used.toNat=v.aG.length:=AC
 have Kt:s.length∉L:=λhm=>by have:=hW.lt _ hm;omega
 refine Zj _ (λq y t=>∃(f:Nat) (fl:List Bool) (next:Int) (u:aR) (Lu:al),y=[.i next]/\0<=next/\fl.length=v.aG.length/\fl.count false<=q/\fl.count false<f/\Wk K t u Lu/\u.aG=v.aG/\u.aK=[]/\u.free.length+fl.count false<=v.aG.length/\t[s.length]? =some (some ⟨false,fl.map .bool⟩)/\s.length∉Lu/\Fx L s t/\Nw L s Lu/\Cg K (nF K f fl next u)=R) ?_ v.aG.length (n+1) _ _ ⟨K.sup.used.toNat+1,_,K.sup.free,v,L,rfl,vQ,by simp[hX],by simp[hX],Do,tr.wk,rfl,hh,by simp[dW,hX],aci,Kt,Fx.pre L oK,.refl L s,hR⟩ AC;rintro q _ t ⟨f,fl,next,u,Lu,rfl,Hu,eE,hcq,yT,eu,jj,uS,huf,xh,hiL,cU,ig,aO⟩ rec aL;rw[av,aq];obtain⟨f,rfl⟩: ∃k,f=k+1:=⟨f-1,AC⟩;unfold nF at aO;cases hz:(next==0)with
 |true=>
  rw[hz,ae]at aO;rw[bw,af];exact ZzU h (n+1) s.length fl s L R eu xh (by rw[jj];exact eE) (by rw[jj];omega) cU ig aO K.sup.used.toNat (by rw[jj];exact hX) AC
 |false=>
  rw[hz,af]at aO;rw[bp,ae];have ET:next≠0:=Fd
  have⟨z1,p1,z2,p2,z3,p3,z4,p4,hd,eu⟩:=eu;rw[bc,Zo eu.cell rfl,bj];cases hle:decide (next<=K.sup.used)with
  |false=>
   rw[hle,af]at aO;rw[pD h n rfl];have A0:none=R:=aO;rw[<-A0];exact .mk ⟨t,rfl,cU⟩
  |true=>
   have alk:=mW hle;rw[hle,ae]at aO;rw[ue h n rfl,aq];have⟨k,hk⟩: ∃k:Nat,next-1=k:=⟨(next-1).toNat,AC⟩;have gm:k<u.aG.length:=by rw[jj];omega
   have cM:ar (next-1)=(k:Int):=by rw[Zc,hk]
   rw[hk,br]at aO;rw[cM,br,bc,Zo eu.cell rfl];show Ok _ (dz 3 (.slice z1 p1 u.aG.length) _ t);rw[Z3 3 z1 p1 _ eu.e1];obtain⟨b,rfl,hb⟩:=eu.o1.cF (by rw[ZB];omega);have np:u.aG[k]? =some u.aG[k]:=cu gm;have tD:=hr u.aG[k] (by rw[<-jj];grind);rw[bc,Zb (Zi gm),MX hb np];rw[np]at aO;simp only at aO;generalize u.aG[k]=x at aO tD;unfold eV;simp only[au,av,aq,Za,bc];have X9:fl[k]? =some (fl[k]' AC):=Fd
   rw[show fl.getD k false=fl[k]' AC by rw[ef,X9];rfl]at aO;have qI: ∀Kc:DV->M ah,bD K.w (0+4) Kc t=Kc (.i K.sup.g) t:=λKc=>Zo eu.cell rfl Kc
   have Hr: ∀Kc:DV->M ah,bD s.length (k*1) Kc t=Kc (.bool (fl[k]' AC)) t:=λKc=>Zo xh (by rw[cS,sC,X9];rfl) Kc
   cases eX:x.live with
   |true=>
    simp only[eX,bw,af]at aO;rw[bw,af,af,pD h n rfl];have A0:none=R:=aO;rw[<-A0];exact .mk ⟨t,rfl,cU⟩
   |false=>
    simp only[eX,bp,ae]at aO;rw[bp,ae,qI,bj];cases hg:decide (x.gen<K.sup.g)with
    |false=>
     simp only[hg,af]at aO;rw[af,pD h n rfl];have A0:none=R:=aO;rw[<-A0];exact .mk ⟨t,rfl,cU⟩
    |true=>
     simp only[hg,ae]at aO;rw[ae,hX,<-jj,Zb (Zi gm),Hr,sH];cases Ya:fl[k]' AC with
     |true=>
      simp only[Ya,bw,af]at aO;rw[bw,pD h n rfl];have A0:none=R:=aO;rw[<-A0];exact .mk ⟨t,rfl,cU⟩
     |false=>
      simp only[Ya,bp,ae]at aO;rw[bp,ue h n rfl,aq,Zb (Zi gm),rk xh (by simp;omega)];have dp:(fl.map DV.bool).set (k*1) (.bool true)=(fl.set k true).map DV.bool:=by rw[cS,List.map_set]
      rw[dp];have Yd:=Fx.set t s.length (some (⟨false,(fl.set k true).map DV.bool⟩:bO));have aiP:lW [s.length] K.a:=λb o e hm=>by
       have aw:=Sl.lt (e▸hW.img);rw[cE.1 hm]at aw;omega
      have OW:=eu.kl Yd Fd aiP (by
       have:=eu.aK;rw[uS]at this⊢;exact this)
      have ack:(t.set s.length (some (⟨false,(fl.set k true).map DV.bool⟩:bO)))[s.length]? =some (some ⟨false,(fl.set k true).map .bool⟩):=Fd
      have Ye:Fx L s (t.set s.length (some (⟨false,(fl.set k true).map DV.bool⟩:bO))):=cU.step Yd λy hy=> .inr (by rw[cE.1 hy];exact aM _)
      generalize t.set s.length (some (⟨false,(fl.set k true).map DV.bool⟩:bO))=t1 at Yd OW ack Ye;rw[Zo OW.cell rfl];show Ok _ (dz 1 (.slice z4 p4 u.free.length) _ t1);rw[Z3 1 z4 p4 _ OW.e4];have ni:=ZxC (l:=fl) (k:=k) (by rw[ef,X9,Ya];rfl);have⟨b2,t2,t3,L3,g1,g2,g3,g4,g5,g6⟩:=OW.akm (β:=ah) (k:Int) AC;have alB:s.length<t1.length:=Fd
      refine Eq.mpr (congrArg (Ok _) (g1 _)) ?_;refine Eq.mpr (congrArg (Ok _) (g2 _)) ?_;have hblk:0<=x.block:=by
       unfold ZN at tD;rw[eX,af,aY,aY]at tD;have h2:=tD.2.1;unfold lF at h2;by_cases yR:x.block>=0
       .exact yR
       grind
      refine aL ((fl.set k true).count false) _ _ AC ⟨f,fl.set k true,x.block,_,L3,rfl,hblk,by simpa using eE,aM _,AC,g3.wk,jj,uS,by simp;omega,?_,?_,Ye.step g4 ig,ig.trans Ye.1 g5,aO⟩
      .refine g4.2 _ _ hiL ack
      .intro hm
       rcases g5 _ hm with e|e
       .exact hiL e
       .omega
def uT (v:aR):aR:= { v with aF:=v.aF++v.aG.map (·.gen) }
def zy (v:aR):Nat:=(v.aG.filter (·.live)).length
theorem ZzZ (n:Nat) (hW:Wk K s v L) (hl:v.aG.length<2000) (hg:v.aF.length<100000) (hn:2010<=n):
  Ok (λo=>∃s' L',o=(.val [.i (zy v:Nat)],s')/\Wk K s' (uT v) L'/\Fx L s s'/\Nw L s L') (run Bd n 234 [.ptr (some (K.w,0))] s):=by
 obtain _|n:=n;omega;rw[Ze,h.af3];unfold Q9 jt pA je N_ rr Li ba gA;simp only[eO,aq,bc,Za];have⟨z1,p1,z2,p2,z3,p3,z4,p4,hd,hW⟩:=hW;rw[Zo hW.cell rfl];show Ok _ (dz 3 (.slice z1 p1 v.aG.length) _ s);rw[Z3 3 z1 p1 _ hW.e1];refine Zj _ (λq y t=>∃(i:Nat) (z3:Nat) (p3:ai) (Lu:al),y=[.i (((v.aG.take i).filter (·.live)).length:Nat),.i i]/\i<=v.aG.length/\v.aG.length-i<=q/\eK K t { v with aF:=v.aF++(v.aG.take i).map (·.gen) } Lu z1 p1 z2 p2 z3 p3 z4 p4 hd/\Fx L s t/\Nw L s Lu) ?_ v.aG.length n _ _ ⟨0,z3,p3,L,rfl,cB _,AC,by simpa using hW,.refl L s,.refl L s⟩ AC;rintro q _ t ⟨i,z3,p3,Lu,rfl,hi,hq,eu,fS,j9⟩ rec aL;simp only[av,aq];by_cases aw:i<v.aG.length
 .obtain⟨b,rfl,hb⟩:=eu.o1.cF (by rw[ZB];grind)
  have np:v.aG[i]? =some v.aG[i]:=cu aw;have fM:v.aG.take (i+1)=v.aG.take i++[v.aG[i]]:=lV aw;rw[aX,bc,Zb (Zi aw),br,MX hb np];generalize v.aG[i]=x at fM;unfold eV;simp only[au,av,aq];rw[Zo eu.cell rfl];show Ok _ (dz 1 (.slice z3 p3 (v.aF++(v.aG.take i).map (·.gen)).length) _ t);rw[Z3 1 z3 p3 _ eu.e3];have jx:(v.aF++(v.aG.take i).map (·.gen)).length<1000000:=by
   rw[bz,lB,cR];omega
  have⟨b2,t2,t3,L3,g1,g2,g3,g4,g5,g6⟩:=eu.akn (β:=ah) x.gen jx;refine Eq.mpr (congrArg (Ok _) (g1 _)) ?_;refine Eq.mpr (congrArg (Ok _) (g2 _)) ?_;have kh:ar ((i:Int)+1)=((i+1:Nat):Int):=Zc;have eE:((v.aG.take i).filter (·.live)).length<=i:=Fd
  have p7:ar (((((v.aG.take i).filter (·.live)).length:Nat):Int)+1)=((((v.aG.take i).filter (·.live)).length+1:Nat):Int):=Zc;rw[kh,p7];have xj:eK K t3 { v with aF:=v.aF++(v.aG.take (i+1)).map (·.gen) } L3 z1 (some (b,0)) z2 p2 1 (some (b2,0)) z4 p4 hd:=by
   rw[fM,fB,<-fR];exact g3
  cases eX:x.live with
  |true=>
   rw[ae];exact aL (v.aG.length-(i+1)) _ _ AC ⟨i+1,1,some (b2,0),L3,by rw[fM,FL];simp[eX],AC,aM _,xj,fS.step g4 j9,j9.trans fS.1 g5⟩
  |false=>
   rw[af];exact aL (v.aG.length-(i+1)) _ _ AC ⟨i+1,1,some (b2,0),L3,by rw[fM,FL];simp[eX],AC,aM _,xj,fS.step g4 j9,j9.trans fS.1 g5⟩
 .rw[aZ]
  rw[Zd];rw[dF AC]at eu⊢;exact .mk ⟨t,Lu,rfl,eu.wk,fS,j9⟩
end Go.Gv.F
